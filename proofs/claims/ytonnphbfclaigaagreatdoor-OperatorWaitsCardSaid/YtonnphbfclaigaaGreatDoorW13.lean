/-.-/
import Derived.Test.YtonnphbfclaigaaGreatDoorW12
set_option linter.all false
namespace Go.Proofs.YtonnphbfclaigaaGreatDoor
open Go.Em
set_option maxRecDepth 100000
variable {b:C}{e:Ex}{nIn:Nat}{H:Nat->St}{fin τ:St}{v:Val}
section
variable (k i s:Int) (t:qaW) (l f:qaV) (n j:Nat)
def reH:St:=⟨[(1,.ptr 0 0 0),(14,.sl false 7 f),(15,nat n),(16,nat j)],[.var [num k,num i,num s,strX t,.sl false 6 l,.sl false 7 f]]⟩
end
theorem pred_nat {j:Nat}(h:j<4294967296):IntKind.i64.wrap (Int.ofNat (j+1)-1)=Int.ofNat j:=by grind[IntKind.wrap_i64]
theorem pos_nat {j:Nat}:decide (0<Int.ofNat (j+1))=true:=by grind
theorem zero_nat:decide (0<Int.ofNat 0)=false:=rfl
theorem rec_round (k i s:Int)(t:qaW)(l:qaV)(f:List (qaW×Val))(j:Nat)(hl:f.length<=60000)(hj:j<f.length):
  (∃r,(∃c:Int,(0<=c/\c<=100)/\∃bx,r=⟨[(2,num c)],bx⟩)/\∀M,60002<=M->run (callF tab ext M) 0 M (loopAt 306 0) (reH k i s t l (cellsF f) (cellsF f).length j)=some (.ret,r))\/(∃υ,canon 0 υ=some (reH k i s t l (cellsF f) (cellsF f).length (j+1))/\∀M,60002<=M->run (callF tab ext M) 0 M (loopAt 306 0) (reH k i s t l (cellsF f) (cellsF f).length j)=some (.norm,υ)):=by
 have hn:=cellsF_length f;have hg:=cellsF_get hj;obtain ⟨b,hb⟩:=name_comes f[j].1;generalize f[j]=p at hg hb;obtain ⟨p0,p1,p2,p3,p4,p5,p6⟩:=p;have hlt:=lt_nat (j:=j) (k:=(cellsF f).length) (by omega);cases b with
 |false=>exact .inl ⟨⟨[(2,num 12)],[.var [num k,num i,num s,strX t,.sl false 6 l,.sl false 7 (cellsF f)],.var (strX p0::(Val.mk p1 p2 p3 p4 p5 p6).cells)]⟩,⟨12,by decide,_,rfl⟩,fun M hM=>run_of [(17,.b true),(19,.e (strX p0::(Val.mk p1 p2 p3 p4 p5 p6).cells)),(24,.p (boolX false))] [] (pf3 hlt hg (hb M hM)) (lo':=[]) (by kernel_rfl)⟩
 |true=>
  cases j with
  |zero=>exact .inr ⟨⟨[(1,.ptr 0 0 0),(14,.sl false 7 (cellsF f)),(15,nat (cellsF f).length),(16,nat (0+1))],[.var [num k,num i,num s,strX t,.sl false 6 l,.sl false 7 (cellsF f)],.var (strX p0::(Val.mk p1 p2 p3 p4 p5 p6).cells)]⟩,by kernel_rfl,fun M hM=>run_of [(17,.b true),(19,.e (strX p0::(Val.mk p1 p2 p3 p4 p5 p6).cells)),(24,.p (boolX true)),(28,.b false),(43,.b false),(56,.i (Int.ofNat (0+1)))] [] (pf6 hlt hg (hb M hM) zero_nat zero_nat (next_nat (j:=0) (by omega))) (lo':=[]) (by kernel_rfl)⟩
  |succ j=>
   have hj':j<f.length:=by omega
   have hq:=cellsF_get hj';generalize f[j]=q at hq;obtain ⟨q0,q1,q2,q3,q4,q5,q6⟩:=q;cases h1:(p0.toList==q0.toList) with
   |true=>exact .inl ⟨⟨[(2,num 7)],[.var [num k,num i,num s,strX t,.sl false 6 l,.sl false 7 (cellsF f)],.var (strX p0::(Val.mk p1 p2 p3 p4 p5 p6).cells)]⟩,⟨7,by decide,_,rfl⟩,fun M hM=>run_of [(17,.b true),(19,.e (strX p0::(Val.mk p1 p2 p3 p4 p5 p6).cells)),(24,.p (boolX true)),(28,.b true),(35,.i (Int.ofNat j)),(36,.e (strX q0::(Val.mk q1 q2 q3 q4 q5 q6).cells)),(39,.b true)] [] (pf7 hlt hg (hb M hM) (pos_nat (j:=j)) (pred_nat (j:=j) (by omega)) hq h1) (lo':=[]) (by kernel_rfl)⟩
   |false=>
    cases h2:Op.bytesLess p0.toList q0.toList with
    |true=>exact .inl ⟨⟨[(2,num 24)],[.var [num k,num i,num s,strX t,.sl false 6 l,.sl false 7 (cellsF f)],.var (strX p0::(Val.mk p1 p2 p3 p4 p5 p6).cells)]⟩,⟨24,by decide,_,rfl⟩,fun M hM=>run_of [(17,.b true),(19,.e (strX p0::(Val.mk p1 p2 p3 p4 p5 p6).cells)),(24,.p (boolX true)),(28,.b true),(35,.i (Int.ofNat j)),(36,.e (strX q0::(Val.mk q1 q2 q3 q4 q5 q6).cells)),(39,.b false),(43,.b true),(50,.i (Int.ofNat j)),(51,.e (strX q0::(Val.mk q1 q2 q3 q4 q5 q6).cells)),(54,.b true)] [] (pf11 hlt hg (hb M hM) (pos_nat (j:=j)) (pred_nat (j:=j) (by omega)) hq h1 (pos_nat (j:=j)) (pred_nat (j:=j) (by omega)) hq h2) (lo':=[]) (by kernel_rfl)⟩
    |false=>exact .inr ⟨⟨[(1,.ptr 0 0 0),(14,.sl false 7 (cellsF f)),(15,nat (cellsF f).length),(16,nat ((j+1)+1))],[.var [num k,num i,num s,strX t,.sl false 6 l,.sl false 7 (cellsF f)],.var (strX p0::(Val.mk p1 p2 p3 p4 p5 p6).cells)]⟩,by kernel_rfl,fun M hM=>run_of [(17,.b true),(19,.e (strX p0::(Val.mk p1 p2 p3 p4 p5 p6).cells)),(24,.p (boolX true)),(28,.b true),(35,.i (Int.ofNat j)),(36,.e (strX q0::(Val.mk q1 q2 q3 q4 q5 q6).cells)),(39,.b false),(43,.b true),(50,.i (Int.ofNat j)),(51,.e (strX q0::(Val.mk q1 q2 q3 q4 q5 q6).cells)),(54,.b false),(56,.i (Int.ofNat ((j+1)+1)))] [] (pf12 hlt hg (hb M hM) (pos_nat (j:=j)) (pred_nat (j:=j) (by omega)) hq h1 (pos_nat (j:=j)) (pred_nat (j:=j) (by omega)) hq h2 (next_nat (j:=(j+1)) (by omega))) (lo':=[]) (by kernel_rfl)⟩
theorem size_big (x:Int)(h:decide (64<x)=true)(N:Nat)(hN:2<=N):Gam.pureD (callF tab ext N) 300 [num x,num 64,num 9]=some (num 9):=by obtain ⟨M,rfl⟩:∃M,N=M+1:=⟨N-1,by omega⟩;exact pure_of [(9,.b true)] [] (pf1 h) (x:=num 9) (bx:=[]) (by kernel_rfl) rfl
theorem rule132 (v:Val):ComesE 60003 306 [.agg v.cells]:=by
 obtain ⟨k,i,s,t,l,f⟩:=v;have hn:=cellsF_length f;by_cases hv:f.length<=60000
 case neg=>
  have h64:decide (64<Int.ofNat (cellsF f).length)=true:=by
   have:64<Int.ofNat (cellsF f).length:=by simp;omega
   exact decide_eq_true this
  apply comesE_succ;exact ⟨9,by decide,fun N hN=>pure_of [(9,.p (num 9)),(11,.b true)] [] (pf2 (size_big _ h64 N (by omega)) (show (!((9:Int)==0))=true from rfl)) (x:=num 9) (bx:=[]) (by kernel_rfl) rfl⟩
 obtain ⟨c,cr,hc⟩:=size_comes (Int.ofNat (cellsF f).length) 64 9 (by decide);have:=scan (B:=60002) (b:=loopAt 306 0) (H:=fun j=>reH k i s t (cellsL l) (cellsF f) (cellsF f).length j) (τ:=reH k i s t (cellsL l) (cellsF f) (cellsF f).length 0) (n:=(cellsF f).length) (e:=.exit 0) (fin:=⟨[(1,.ptr 0 0 0),(14,.sl false 7 (cellsF f)),(15,nat (cellsF f).length),(16,nat (cellsF f).length),(17,boolX false)],[.var [num k,num i,num s,strX t,.sl false 6 (cellsL l),.sl false 7 (cellsF f)]]⟩) (fun r=>∃c:Int,(0<=c/\c<=100)/\∃bx,r=⟨[(2,num c)],bx⟩) (by kernel_rfl)
  (fun j hj=>rec_round k i s t (cellsL l) f j (by omega) (by omega))
  (fun M _=>run_of [(17,.b false)] [] (pf1 (nlt_nat (qar (cellsF f).length))) (lo':=[]) (by kernel_rfl)) (by simp)
 apply comesE_succ;cases h:(!(c==0)) with
 |true=>exact ⟨c,cr,fun N hN=>pure_of [(9,.p (num c)),(11,.b true)] [] (pf2 (hc N (by omega)) h) (x:=num c) (bx:=[]) (by kernel_rfl) rfl⟩
 |false=>
  rcases this with ⟨r,⟨d,dr,bx,rfl⟩,hr⟩|hr;·exact ⟨d,dr,fun N hN=>pure_of [(9,.p (num c)),(11,.b false)] [(.ret,⟨[(2,num d)],bx⟩)] (pf3 (hc N (by omega)) h (hr N (by omega) (by omega))) (x:=num d) (bx:=[]) (by kernel_rfl) rfl⟩
  exact ⟨0,by decide,fun N hN=>pure_of [(9,.p (num c)),(11,.b false)] [(.exit 0,⟨[(1,.ptr 0 0 0),(14,.sl false 7 (cellsF f)),(15,nat (cellsF f).length),(16,nat (cellsF f).length),(17,boolX false)],[.var [num k,num i,num s,strX t,.sl false 6 (cellsL l),.sl false 7 (cellsF f)]]⟩)] (pf3 (hc N (by omega)) h (hr N (by omega) (by omega))) (x:=num 0) (bx:=[]) (by kernel_rfl) rfl⟩
def Val.few:Val->Prop
 |.mk _ _ _ _ l f=>l.length<=2000000/\f.length<=2000000
mutual
def Val.wide:Val->Prop
 |.mk _ _ _ _ l f=>(l.length<=2000000/\f.length<=2000000)/\wideL l/\wideF f
def wideL:List Val->Prop
 |[]=>True
 |v::r=>v.wide/\wideL r
def wideF:List (qaW×Val)->Prop
 |[]=>True
 |(_,v)::r=>v.wide/\wideF r
end
theorem wideL_mem {v:Val}:∀{l:List Val},wideL l->v∈l->v.wide
 |u::r,h,hm=>by
  simp only [wideL] at h;rcases qaz.1 hm with rfl|hm
  ·grind
  exact wideL_mem h.2 hm
theorem wideF_mem {p:qaW×Val}:∀{l:List (qaW×Val)},wideF l->p∈l->p.2.wide
 |(n,u)::r,h,hm=>by
  simp only [wideF] at h;rcases qaz.1 hm with rfl|hm
  ·grind
  exact wideF_mem h.2 hm
theorem few_of_wide (h:v.wide):v.few:=by obtain ⟨k,i,s,t,l,f⟩:=v;simp only [Val.wide] at h;exact h.1
mutual
theorem wide_of:∀{v:Val},v.size<=2000000->v.wide
 |.mk k i s t l f,h=>by simp only [Val.size] at h;have:=sizeL_length l;have:=sizeF_length f;simp only [Val.wide];exact ⟨⟨by omega,by omega⟩,wideL_of (by omega),wideF_of (by omega)⟩
theorem wideL_of:∀{l:List Val},sizeL l<=2000000->wideL l
 |[],_=>by grind[wideL]
 |v::r,h=>by simp only [sizeL] at h;simp only [wideL];exact ⟨wide_of (by omega),wideL_of (by omega)⟩
theorem wideF_of:∀{l:List (qaW×Val)},sizeF l<=2000000->wideF l
 |[],_=>by grind[wideF]
 |(n,v)::r,h=>by simp only [sizeF] at h;simp only [wideF];exact ⟨wide_of (by omega),wideF_of (by omega)⟩
end
theorem wide_of_ok (h:v.ok):v.wide:=by grind[wide_of,Val.ok]
theorem app_wide {acc:qaV}(j i bytes:Nat)(h:j=acc.length)(hj:j<3000000)(hb:bytes<1000):0+j=acc.length/\roomOk (j+1) bytes=true/\memN i []=false:=
 ⟨by omega,room_of (by have:(j+1)*bytes<=3000000*1000:=Nat.mul_le_mul (by omega) (by omega);omega) (by omega),rfl⟩
def partsV:Val->List Val
 |.mk k _ _ _ l f=>if k=8\/k=10 then l else if k=9 then f.map (·.2) else []
def paH (f acc:qaV)(n j:Nat):St:=⟨[(3,.bs 0 0 j),(16,.sl false 7 f),(17,nat n),(18,nat j)],[.row 6 acc]⟩
def paH' (f acc:qaV)(n j:Nat)(x y:List X):St:=⟨[(3,.bs 2 0 (j+1)),(16,.sl false 7 f),(17,nat n),(18,nat (j+1))],[.dead,.var x,.row 6 (acc++[y])]⟩
theorem pa_canon' (f acc:qaV)(n j:Nat)(x y:List X):canon 0 (paH' f acc n j x y)=some (paH f (acc++[y]) n (j+1)):=by kernel_rfl
theorem parts_wide (N:Nat)(v:Val)(hv:v.few)(hN:v.size+10<=N):Gam.pureD (callF tab ext N) 379 [.agg v.cells]=some (.sl false 6 (cellsL (partsV v))):=by
 obtain ⟨M,rfl⟩:∃M,N=M+1:=⟨N-1,by omega⟩;obtain ⟨k,i,s,t,l,f⟩:=v;simp only [Val.size] at hN;have hv:=hv.2;have hf:=sizeF_length f;have hn:=cellsF_length f;simp only [partsV];cases h1:(k==8) with
 |true=>
  have:k=8:=by simpa using h1
  rw [if_pos (Or.inl this)];exact pure_of [(9,.b true)] [] (pf1 h1) (x:=.sl false 6 (cellsL l)) (bx:=[]) (by kernel_rfl) rfl
 |false=>
  have n8:k≠8:=by simpa using h1
  cases h2:(k==10) with
  |true=>
   have:k=10:=by simpa using h2
   rw [if_pos (Or.inr this)];exact pure_of [(9,.b false),(10,.b true)] [] (pf2 h1 h2) (x:=.sl false 6 (cellsL l)) (bx:=[]) (by kernel_rfl) rfl
  |false=>
   have n10:k≠10:=by simpa using h2
   rw [if_neg (by grind)];cases h3:(k==9) with
   |false=>
    have n9:k≠9:=by simpa using h3
    rw [if_neg n9];exact pure_of [(9,.b false),(10,.b false),(14,.b false)] [] (pf3 h1 h2 h3) (x:=.sl true 6 []) (bx:=[]) (by kernel_rfl) rfl
   |true=>
    have:k=9:=by simpa using h3
    rw [if_pos this];have hloop:run (callF tab ext M) 0 M (.loop (loopAt 379 0)) ⟨[(3,.bs 1 0 0),(16,.sl false 7 (cellsF f)),(17,nat (cellsF f).length),(18,nat 0)],[.var (Val.mk k i s t l f).cells,.row 6 []]⟩=some (.exit 1,⟨[(3,.bs 0 0 (cellsF f).length),(16,.sl false 7 (cellsF f)),(17,nat (cellsF f).length),(18,nat (cellsF f).length),(19,boolX false)],[.row 6 (cellsL (f.map (·.2)))]⟩):=by
     refine loop_for (σ:=fun j=>paH (cellsF f) ((cellsL (f.map (·.2))).take j) (cellsF f).length j) (k:=(cellsF f).length) (by kernel_rfl) (fun j hj=>?_) ?_ (by simp) (by omega)
     ·have hj':j<f.length:=by omega
      have hg:=cellsF_get hj';have hg2:(cellsL (f.map (·.2)))[j]?=some f[j].2.cells:=by rw [cellsL_eq];simp [hj']
      have ht:=take_succ_get hg2;have hlen:j=((cellsL (f.map (·.2))).take j).length:=by rw [qac,cellsL_length,qay];omega
      generalize f[j]=p at hg ht;obtain ⟨p0,p1,p2,p3,p4,p5,p6⟩:=p;refine ⟨paH' (cellsF f) ((cellsL (f.map (·.2))).take j) (cellsF f).length j (strX p0::(Val.mk p1 p2 p3 p4 p5 p6).cells) (Val.mk p1 p2 p3 p4 p5 p6).cells,run_of [(19,.b true),(20,.e (strX p0::(Val.mk p1 p2 p3 p4 p5 p6).cells)),(26,.app),(27,.i (Int.ofNat (j+1)))] []
       (pf4 (lt_nat (j:=j) (k:=(cellsF f).length) (by omega)) hg (app_wide (acc:=(cellsL (f.map (·.2))).take j) j 0 88 hlen (by omega) (by omega)) (next_nat (j:=j) (by omega))) (lo':=[]) (by kernel_rfl),?_⟩
      grind[pa_canon']
     have ht:(cellsL (f.map (·.2))).take (cellsF f).length=cellsL (f.map (·.2)):=List.take_of_length_le (by grind[cellsL_length]);rw [ht];exact run_of [(19,.b false)] [] (pf1 (nlt_nat (qar (cellsF f).length))) (lo':=[]) (by kernel_rfl)
    have hd:(X.bs 0 0 (cellsF f).length).data [.row 6 (cellsL (f.map (·.2)))] false=some (.sl false 6 (cellsL (f.map (·.2)))):=by
     have hl:(cellsL (f.map (·.2))).length=(cellsF f).length:=by rw [cellsL_length,qay,hn]
     simp only [X.data,rowOf,List.getElem?_cons_zero,Nat.zero_add,hl,Nat.le_refl,if_true,qaG,List.drop_zero];rw [List.take_of_length_le (by omega)]
    exact pure_of [(9,.b false),(10,.b false),(14,.b true)] [(.exit 1,⟨[(3,.bs 0 0 (cellsF f).length),(16,.sl false 7 (cellsF f)),(17,nat (cellsF f).length),(18,nat (cellsF f).length),(19,boolX false)],[.row 6 (cellsL (f.map (·.2)))]⟩)]
     (pf4 h1 h2 h3 hloop) (bx:=[.row 6 (cellsL (f.map (·.2)))]) (by kernel_rfl) hd
def rfsOf:C->List (C×C)
 |.seq a b|.cond _ a b=>rfsOf a++rfsOf b
 |.block _ b|.loop b=>rfsOf b
 |.rf _ _ _ a b=>(a,b)::(rfsOf a++rfsOf b)
 |_=>[]
noncomputable def rfAt (f:Nat):C×C:=match tab f with
 |some fd=>(rfsOf fd.body).getD 0 (.skip,.skip)
 |none=>(.skip,.skip)
noncomputable def recC (st:LoopState)(p:Option Ex):Bx:=.loop st p [(2,.ptr 1 0 0),(3,.ptr 2 0 0),(4,.ptr 3 0 0)] [11,12] (rfAt 158).1 (rfAt 158).2
def rulesX:List X:=[.v .nilFunc,.fn 294 [],.fn 296 [],.fn 297 [],.fn 299 [],.fn 302 [],.fn 303 [],.fn 304 [],.fn 305 [],.fn 306 [],.fn 308 []]
noncomputable def goC (n:Nat):List Bx:=[recC .ready none,.var [num 0],.var rulesX,.var [nat n]]
noncomputable def endC (c:Int)(n:Nat):List Bx:=[recC .done (some .ret),.var [num c],.var rulesX,.var [nat n]]
def Round (v:Val)(lev:Int)(n:Nat):Prop:=
 (∃c:Int,(0<=c/\c<=100)/\∀N,60010<=N->callF tab ext N .yl [.yl 0,num lev,.agg v.cells] (goC n)=some (boolX false,endC c (n+1)))\/
 (n<=4096/\∀N,60010<=N->callF tab ext N .yl [.yl 0,num lev,.agg v.cells] (goC n)=some (boolX true,goC (n+1)))
theorem round_succ {lev:Int}{n:Nat}(h:(∃c:Int,(0<=c/\c<=100)/\∀N,60009<=N->callF tab ext (N+1) .yl [.yl 0,num lev,.agg v.cells] (goC n)=some (boolX false,endC c (n+1)))\/
 (n<=4096/\∀N,60009<=N->callF tab ext (N+1) .yl [.yl 0,num lev,.agg v.cells] (goC n)=some (boolX true,goC (n+1)))):Round v lev n:=by
 rcases h with ⟨c,cr,h⟩|⟨hn,h⟩;·refine .inl ⟨c,cr,fun N hN=>?_⟩;obtain ⟨M,rfl⟩:∃M,N=M+1:=⟨N-1,by omega⟩<;>simp_all
 refine .inr ⟨hn,fun N hN=>?_⟩;obtain ⟨M,rfl⟩:∃M,N=M+1:=⟨N-1,by omega⟩<;>simp_all
theorem null_at (v:Val)(N:Nat)(hN:60009<=N):Gam.pureD (callF tab ext N) 159 [.agg v.cells]=some (boolX (nullV v)):=by obtain ⟨M,rfl⟩:∃M,N=M+1:=⟨N-1,by omega⟩<;>simp_all[null_val]
theorem small_of {n:Nat}(h:decide (4096<Int.ofNat (n+1))=false):n<=4096:=by grind
theorem round1 (i s:Int)(t:qaW)(l:List Val)(f:List (qaW×Val))(lev:Int)(n:Nat)(hn:n<4294967296):Round (Val.mk 1 i s t l f) lev n:=by
 obtain ⟨b,hb⟩:=uses1 i s t l f;obtain ⟨c,cr,hc⟩:=rule120 (Val.mk 1 i s t l f);apply round_succ;cases h1:decide (4096<Int.ofNat (n+1)) with
 |true=>exact .inl ⟨9,by decide,fun N hN=>yield_of [(14,.i (Int.ofNat (n+1))),(17,.b true)] (pf2 (next_nat (j:=n) hn) h1) (by kernel_rfl)⟩
 |false=>
  cases h2:decide (8<lev) with
  |true=>exact .inl ⟨23,by decide,fun N hN=>yield_of [(14,.i (Int.ofNat (n+1))),(17,.b false),(20,.b true)] (pf3 (next_nat (j:=n) hn) h1 h2) (by kernel_rfl)⟩
  |false=>
   have hz:=null_at (Val.mk 1 i s t l f);generalize nullV (Val.mk 1 i s t l f)=z at hz;cases z with
   |true=>exact .inl ⟨19,by decide,fun N hN=>yield_of [(14,.i (Int.ofNat (n+1))),(17,.b false),(20,.b false),(23,.p (boolX true))] (pf4 (next_nat (j:=n) hn) h1 h2 (hz N hN)) (by kernel_rfl)⟩
   |false=>
    cases b with
    |true=>
     cases h3:(!(c==0)) with
     |true=>exact .inl ⟨c,cr,fun N hN=>yield_of [(14,.i (Int.ofNat (n+1))),(17,.b false),(20,.b false),(23,.p (boolX false)),(35,.p (boolX true)),(42,.p (num c)),(44,.b true)] (pf7 (next_nat (j:=n) hn) h1 h2 (hz N hN) (hb N (by omega)) (hc N (by omega)) h3) (by kernel_rfl)⟩
     |false=>exact .inr ⟨small_of h1,fun N hN=>yield_of [(14,.i (Int.ofNat (n+1))),(17,.b false),(20,.b false),(23,.p (boolX false)),(35,.p (boolX true)),(42,.p (num c)),(44,.b false)] (pf7 (next_nat (j:=n) hn) h1 h2 (hz N hN) (hb N (by omega)) (hc N (by omega)) h3) (by kernel_rfl)⟩
    |false=>exact .inl ⟨3,by decide,fun N hN=>yield_of [(14,.i (Int.ofNat (n+1))),(17,.b false),(20,.b false),(23,.p (boolX false)),(35,.p (boolX false))] (pf5 (next_nat (j:=n) hn) h1 h2 (hz N hN) (hb N (by omega))) (by kernel_rfl)⟩
theorem round2 (i s:Int)(t:qaW)(l:List Val)(f:List (qaW×Val))(lev:Int)(n:Nat)(hn:n<4294967296):Round (Val.mk 2 i s t l f) lev n:=by
 obtain ⟨b,hb⟩:=uses2 i s t l f;obtain ⟨c,cr,hc⟩:=rule122 (Val.mk 2 i s t l f);apply round_succ;cases h1:decide (4096<Int.ofNat (n+1)) with
 |true=>exact .inl ⟨9,by decide,fun N hN=>yield_of [(14,.i (Int.ofNat (n+1))),(17,.b true)] (pf2 (next_nat (j:=n) hn) h1) (by kernel_rfl)⟩
 |false=>
  cases h2:decide (8<lev) with
  |true=>exact .inl ⟨23,by decide,fun N hN=>yield_of [(14,.i (Int.ofNat (n+1))),(17,.b false),(20,.b true)] (pf3 (next_nat (j:=n) hn) h1 h2) (by kernel_rfl)⟩
  |false=>
   have hz:=null_at (Val.mk 2 i s t l f);generalize nullV (Val.mk 2 i s t l f)=z at hz;cases z with
   |true=>exact .inl ⟨19,by decide,fun N hN=>yield_of [(14,.i (Int.ofNat (n+1))),(17,.b false),(20,.b false),(23,.p (boolX true))] (pf4 (next_nat (j:=n) hn) h1 h2 (hz N hN)) (by kernel_rfl)⟩
   |false=>
    cases b with
    |true=>
     cases h3:(!(c==0)) with
     |true=>exact .inl ⟨c,cr,fun N hN=>yield_of [(14,.i (Int.ofNat (n+1))),(17,.b false),(20,.b false),(23,.p (boolX false)),(35,.p (boolX true)),(42,.p (num c)),(44,.b true)] (pf7 (next_nat (j:=n) hn) h1 h2 (hz N hN) (hb N (by omega)) (hc N (by omega)) h3) (by kernel_rfl)⟩
     |false=>exact .inr ⟨small_of h1,fun N hN=>yield_of [(14,.i (Int.ofNat (n+1))),(17,.b false),(20,.b false),(23,.p (boolX false)),(35,.p (boolX true)),(42,.p (num c)),(44,.b false)] (pf7 (next_nat (j:=n) hn) h1 h2 (hz N hN) (hb N (by omega)) (hc N (by omega)) h3) (by kernel_rfl)⟩
    |false=>exact .inl ⟨3,by decide,fun N hN=>yield_of [(14,.i (Int.ofNat (n+1))),(17,.b false),(20,.b false),(23,.p (boolX false)),(35,.p (boolX false))] (pf5 (next_nat (j:=n) hn) h1 h2 (hz N hN) (hb N (by omega))) (by kernel_rfl)⟩
theorem round3 (i s:Int)(t:qaW)(l:List Val)(f:List (qaW×Val))(lev:Int)(n:Nat)(hn:n<4294967296):Round (Val.mk 3 i s t l f) lev n:=by
 obtain ⟨b,hb⟩:=uses3 i s t l f;obtain ⟨c,cr,hc⟩:=rule123 (Val.mk 3 i s t l f);apply round_succ;cases h1:decide (4096<Int.ofNat (n+1)) with
 |true=>exact .inl ⟨9,by decide,fun N hN=>yield_of [(14,.i (Int.ofNat (n+1))),(17,.b true)] (pf2 (next_nat (j:=n) hn) h1) (by kernel_rfl)⟩
 |false=>
  cases h2:decide (8<lev) with
  |true=>exact .inl ⟨23,by decide,fun N hN=>yield_of [(14,.i (Int.ofNat (n+1))),(17,.b false),(20,.b true)] (pf3 (next_nat (j:=n) hn) h1 h2) (by kernel_rfl)⟩
  |false=>
   have hz:=null_at (Val.mk 3 i s t l f);generalize nullV (Val.mk 3 i s t l f)=z at hz;cases z with
   |true=>exact .inl ⟨19,by decide,fun N hN=>yield_of [(14,.i (Int.ofNat (n+1))),(17,.b false),(20,.b false),(23,.p (boolX true))] (pf4 (next_nat (j:=n) hn) h1 h2 (hz N hN)) (by kernel_rfl)⟩
   |false=>
    cases b with
    |true=>
     cases h3:(!(c==0)) with
     |true=>exact .inl ⟨c,cr,fun N hN=>yield_of [(14,.i (Int.ofNat (n+1))),(17,.b false),(20,.b false),(23,.p (boolX false)),(35,.p (boolX true)),(42,.p (num c)),(44,.b true)] (pf7 (next_nat (j:=n) hn) h1 h2 (hz N hN) (hb N (by omega)) (hc N (by omega)) h3) (by kernel_rfl)⟩
     |false=>exact .inr ⟨small_of h1,fun N hN=>yield_of [(14,.i (Int.ofNat (n+1))),(17,.b false),(20,.b false),(23,.p (boolX false)),(35,.p (boolX true)),(42,.p (num c)),(44,.b false)] (pf7 (next_nat (j:=n) hn) h1 h2 (hz N hN) (hb N (by omega)) (hc N (by omega)) h3) (by kernel_rfl)⟩
    |false=>exact .inl ⟨3,by decide,fun N hN=>yield_of [(14,.i (Int.ofNat (n+1))),(17,.b false),(20,.b false),(23,.p (boolX false)),(35,.p (boolX false))] (pf5 (next_nat (j:=n) hn) h1 h2 (hz N hN) (hb N (by omega))) (by kernel_rfl)⟩
theorem round4 (i s:Int)(t:qaW)(l:List Val)(f:List (qaW×Val))(lev:Int)(n:Nat)(hn:n<4294967296):Round (Val.mk 4 i s t l f) lev n:=by
 obtain ⟨b,hb⟩:=uses4 i s t l f;obtain ⟨c,cr,hc⟩:=rule125 (Val.mk 4 i s t l f);apply round_succ;cases h1:decide (4096<Int.ofNat (n+1)) with
 |true=>exact .inl ⟨9,by decide,fun N hN=>yield_of [(14,.i (Int.ofNat (n+1))),(17,.b true)] (pf2 (next_nat (j:=n) hn) h1) (by kernel_rfl)⟩
 |false=>
  cases h2:decide (8<lev) with
  |true=>exact .inl ⟨23,by decide,fun N hN=>yield_of [(14,.i (Int.ofNat (n+1))),(17,.b false),(20,.b true)] (pf3 (next_nat (j:=n) hn) h1 h2) (by kernel_rfl)⟩
  |false=>
   have hz:=null_at (Val.mk 4 i s t l f);generalize nullV (Val.mk 4 i s t l f)=z at hz;cases z with
   |true=>exact .inl ⟨19,by decide,fun N hN=>yield_of [(14,.i (Int.ofNat (n+1))),(17,.b false),(20,.b false),(23,.p (boolX true))] (pf4 (next_nat (j:=n) hn) h1 h2 (hz N hN)) (by kernel_rfl)⟩
   |false=>
    cases b with
    |true=>
     cases h3:(!(c==0)) with
     |true=>exact .inl ⟨c,cr,fun N hN=>yield_of [(14,.i (Int.ofNat (n+1))),(17,.b false),(20,.b false),(23,.p (boolX false)),(35,.p (boolX true)),(42,.p (num c)),(44,.b true)] (pf7 (next_nat (j:=n) hn) h1 h2 (hz N hN) (hb N (by omega)) (hc N (by omega)) h3) (by kernel_rfl)⟩
     |false=>exact .inr ⟨small_of h1,fun N hN=>yield_of [(14,.i (Int.ofNat (n+1))),(17,.b false),(20,.b false),(23,.p (boolX false)),(35,.p (boolX true)),(42,.p (num c)),(44,.b false)] (pf7 (next_nat (j:=n) hn) h1 h2 (hz N hN) (hb N (by omega)) (hc N (by omega)) h3) (by kernel_rfl)⟩
    |false=>exact .inl ⟨3,by decide,fun N hN=>yield_of [(14,.i (Int.ofNat (n+1))),(17,.b false),(20,.b false),(23,.p (boolX false)),(35,.p (boolX false))] (pf5 (next_nat (j:=n) hn) h1 h2 (hz N hN) (hb N (by omega))) (by kernel_rfl)⟩
theorem round5 (i s:Int)(t:qaW)(l:List Val)(f:List (qaW×Val))(lev:Int)(n:Nat)(hn:n<4294967296):Round (Val.mk 5 i s t l f) lev n:=by
 obtain ⟨b,hb⟩:=uses5 i s t l f;obtain ⟨c,cr,hc⟩:=rule128 (Val.mk 5 i s t l f);apply round_succ;cases h1:decide (4096<Int.ofNat (n+1)) with
 |true=>exact .inl ⟨9,by decide,fun N hN=>yield_of [(14,.i (Int.ofNat (n+1))),(17,.b true)] (pf2 (next_nat (j:=n) hn) h1) (by kernel_rfl)⟩
 |false=>
  cases h2:decide (8<lev) with
  |true=>exact .inl ⟨23,by decide,fun N hN=>yield_of [(14,.i (Int.ofNat (n+1))),(17,.b false),(20,.b true)] (pf3 (next_nat (j:=n) hn) h1 h2) (by kernel_rfl)⟩
  |false=>
   have hz:=null_at (Val.mk 5 i s t l f);generalize nullV (Val.mk 5 i s t l f)=z at hz;cases z with
   |true=>exact .inl ⟨19,by decide,fun N hN=>yield_of [(14,.i (Int.ofNat (n+1))),(17,.b false),(20,.b false),(23,.p (boolX true))] (pf4 (next_nat (j:=n) hn) h1 h2 (hz N hN)) (by kernel_rfl)⟩
   |false=>
    cases b with
    |true=>
     cases h3:(!(c==0)) with
     |true=>exact .inl ⟨c,cr,fun N hN=>yield_of [(14,.i (Int.ofNat (n+1))),(17,.b false),(20,.b false),(23,.p (boolX false)),(35,.p (boolX true)),(42,.p (num c)),(44,.b true)] (pf7 (next_nat (j:=n) hn) h1 h2 (hz N hN) (hb N (by omega)) (hc N (by omega)) h3) (by kernel_rfl)⟩
     |false=>exact .inr ⟨small_of h1,fun N hN=>yield_of [(14,.i (Int.ofNat (n+1))),(17,.b false),(20,.b false),(23,.p (boolX false)),(35,.p (boolX true)),(42,.p (num c)),(44,.b false)] (pf7 (next_nat (j:=n) hn) h1 h2 (hz N hN) (hb N (by omega)) (hc N (by omega)) h3) (by kernel_rfl)⟩
    |false=>exact .inl ⟨3,by decide,fun N hN=>yield_of [(14,.i (Int.ofNat (n+1))),(17,.b false),(20,.b false),(23,.p (boolX false)),(35,.p (boolX false))] (pf5 (next_nat (j:=n) hn) h1 h2 (hz N hN) (hb N (by omega))) (by kernel_rfl)⟩
theorem round6 (i s:Int)(t:qaW)(l:List Val)(f:List (qaW×Val))(lev:Int)(n:Nat)(hn:n<4294967296):Round (Val.mk 6 i s t l f) lev n:=by
 obtain ⟨b,hb⟩:=uses6 i s t l f;obtain ⟨c,cr,hc⟩:=rule129 (Val.mk 6 i s t l f);apply round_succ;cases h1:decide (4096<Int.ofNat (n+1)) with
 |true=>exact .inl ⟨9,by decide,fun N hN=>yield_of [(14,.i (Int.ofNat (n+1))),(17,.b true)] (pf2 (next_nat (j:=n) hn) h1) (by kernel_rfl)⟩
 |false=>
  cases h2:decide (8<lev) with
  |true=>exact .inl ⟨23,by decide,fun N hN=>yield_of [(14,.i (Int.ofNat (n+1))),(17,.b false),(20,.b true)] (pf3 (next_nat (j:=n) hn) h1 h2) (by kernel_rfl)⟩
  |false=>
   have hz:=null_at (Val.mk 6 i s t l f);generalize nullV (Val.mk 6 i s t l f)=z at hz;cases z with
   |true=>exact .inl ⟨19,by decide,fun N hN=>yield_of [(14,.i (Int.ofNat (n+1))),(17,.b false),(20,.b false),(23,.p (boolX true))] (pf4 (next_nat (j:=n) hn) h1 h2 (hz N hN)) (by kernel_rfl)⟩
   |false=>
    cases b with
    |true=>
     cases h3:(!(c==0)) with
     |true=>exact .inl ⟨c,cr,fun N hN=>yield_of [(14,.i (Int.ofNat (n+1))),(17,.b false),(20,.b false),(23,.p (boolX false)),(35,.p (boolX true)),(42,.p (num c)),(44,.b true)] (pf7 (next_nat (j:=n) hn) h1 h2 (hz N hN) (hb N (by omega)) (hc N (by omega)) h3) (by kernel_rfl)⟩
     |false=>exact .inr ⟨small_of h1,fun N hN=>yield_of [(14,.i (Int.ofNat (n+1))),(17,.b false),(20,.b false),(23,.p (boolX false)),(35,.p (boolX true)),(42,.p (num c)),(44,.b false)] (pf7 (next_nat (j:=n) hn) h1 h2 (hz N hN) (hb N (by omega)) (hc N (by omega)) h3) (by kernel_rfl)⟩
    |false=>exact .inl ⟨3,by decide,fun N hN=>yield_of [(14,.i (Int.ofNat (n+1))),(17,.b false),(20,.b false),(23,.p (boolX false)),(35,.p (boolX false))] (pf5 (next_nat (j:=n) hn) h1 h2 (hz N hN) (hb N (by omega))) (by kernel_rfl)⟩
theorem round7 (i s:Int)(t:qaW)(l:List Val)(f:List (qaW×Val))(lev:Int)(n:Nat)(hn:n<4294967296):Round (Val.mk 7 i s t l f) lev n:=by
 obtain ⟨b,hb⟩:=uses7 i s t l f;obtain ⟨c,cr,hc⟩:=rule130 (Val.mk 7 i s t l f);apply round_succ;cases h1:decide (4096<Int.ofNat (n+1)) with
 |true=>exact .inl ⟨9,by decide,fun N hN=>yield_of [(14,.i (Int.ofNat (n+1))),(17,.b true)] (pf2 (next_nat (j:=n) hn) h1) (by kernel_rfl)⟩
 |false=>
  cases h2:decide (8<lev) with
  |true=>exact .inl ⟨23,by decide,fun N hN=>yield_of [(14,.i (Int.ofNat (n+1))),(17,.b false),(20,.b true)] (pf3 (next_nat (j:=n) hn) h1 h2) (by kernel_rfl)⟩
  |false=>
   have hz:=null_at (Val.mk 7 i s t l f);generalize nullV (Val.mk 7 i s t l f)=z at hz;cases z with
   |true=>exact .inl ⟨19,by decide,fun N hN=>yield_of [(14,.i (Int.ofNat (n+1))),(17,.b false),(20,.b false),(23,.p (boolX true))] (pf4 (next_nat (j:=n) hn) h1 h2 (hz N hN)) (by kernel_rfl)⟩
   |false=>
    cases b with
    |true=>
     cases h3:(!(c==0)) with
     |true=>exact .inl ⟨c,cr,fun N hN=>yield_of [(14,.i (Int.ofNat (n+1))),(17,.b false),(20,.b false),(23,.p (boolX false)),(35,.p (boolX true)),(42,.p (num c)),(44,.b true)] (pf7 (next_nat (j:=n) hn) h1 h2 (hz N hN) (hb N (by omega)) (hc N (by omega)) h3) (by kernel_rfl)⟩
     |false=>exact .inr ⟨small_of h1,fun N hN=>yield_of [(14,.i (Int.ofNat (n+1))),(17,.b false),(20,.b false),(23,.p (boolX false)),(35,.p (boolX true)),(42,.p (num c)),(44,.b false)] (pf7 (next_nat (j:=n) hn) h1 h2 (hz N hN) (hb N (by omega)) (hc N (by omega)) h3) (by kernel_rfl)⟩
    |false=>exact .inl ⟨3,by decide,fun N hN=>yield_of [(14,.i (Int.ofNat (n+1))),(17,.b false),(20,.b false),(23,.p (boolX false)),(35,.p (boolX false))] (pf5 (next_nat (j:=n) hn) h1 h2 (hz N hN) (hb N (by omega))) (by kernel_rfl)⟩
theorem round8 (i s:Int)(t:qaW)(l:List Val)(f:List (qaW×Val))(lev:Int)(n:Nat)(hn:n<4294967296):Round (Val.mk 8 i s t l f) lev n:=by
 obtain ⟨b,hb⟩:=uses8 i s t l f;obtain ⟨c,cr,hc⟩:=rule131 (Val.mk 8 i s t l f);apply round_succ;cases h1:decide (4096<Int.ofNat (n+1)) with
 |true=>exact .inl ⟨9,by decide,fun N hN=>yield_of [(14,.i (Int.ofNat (n+1))),(17,.b true)] (pf2 (next_nat (j:=n) hn) h1) (by kernel_rfl)⟩
 |false=>
  cases h2:decide (8<lev) with
  |true=>exact .inl ⟨23,by decide,fun N hN=>yield_of [(14,.i (Int.ofNat (n+1))),(17,.b false),(20,.b true)] (pf3 (next_nat (j:=n) hn) h1 h2) (by kernel_rfl)⟩
  |false=>
   have hz:=null_at (Val.mk 8 i s t l f);generalize nullV (Val.mk 8 i s t l f)=z at hz;cases z with
   |true=>exact .inl ⟨19,by decide,fun N hN=>yield_of [(14,.i (Int.ofNat (n+1))),(17,.b false),(20,.b false),(23,.p (boolX true))] (pf4 (next_nat (j:=n) hn) h1 h2 (hz N hN)) (by kernel_rfl)⟩
   |false=>
    cases b with
    |true=>
     cases h3:(!(c==0)) with
     |true=>exact .inl ⟨c,cr,fun N hN=>yield_of [(14,.i (Int.ofNat (n+1))),(17,.b false),(20,.b false),(23,.p (boolX false)),(35,.p (boolX true)),(42,.p (num c)),(44,.b true)] (pf7 (next_nat (j:=n) hn) h1 h2 (hz N hN) (hb N (by omega)) (hc N (by omega)) h3) (by kernel_rfl)⟩
     |false=>exact .inr ⟨small_of h1,fun N hN=>yield_of [(14,.i (Int.ofNat (n+1))),(17,.b false),(20,.b false),(23,.p (boolX false)),(35,.p (boolX true)),(42,.p (num c)),(44,.b false)] (pf7 (next_nat (j:=n) hn) h1 h2 (hz N hN) (hb N (by omega)) (hc N (by omega)) h3) (by kernel_rfl)⟩
    |false=>exact .inl ⟨3,by decide,fun N hN=>yield_of [(14,.i (Int.ofNat (n+1))),(17,.b false),(20,.b false),(23,.p (boolX false)),(35,.p (boolX false))] (pf5 (next_nat (j:=n) hn) h1 h2 (hz N hN) (hb N (by omega))) (by kernel_rfl)⟩
theorem round9 (i s:Int)(t:qaW)(l:List Val)(f:List (qaW×Val))(lev:Int)(n:Nat)(hn:n<4294967296):Round (Val.mk 9 i s t l f) lev n:=by
 obtain ⟨b,hb⟩:=uses9 i s t l f;obtain ⟨c,cr,hc⟩:=rule132 (Val.mk 9 i s t l f);apply round_succ;cases h1:decide (4096<Int.ofNat (n+1)) with
 |true=>exact .inl ⟨9,by decide,fun N hN=>yield_of [(14,.i (Int.ofNat (n+1))),(17,.b true)] (pf2 (next_nat (j:=n) hn) h1) (by kernel_rfl)⟩
 |false=>
  cases h2:decide (8<lev) with
  |true=>exact .inl ⟨23,by decide,fun N hN=>yield_of [(14,.i (Int.ofNat (n+1))),(17,.b false),(20,.b true)] (pf3 (next_nat (j:=n) hn) h1 h2) (by kernel_rfl)⟩
  |false=>
   have hz:=null_at (Val.mk 9 i s t l f);generalize nullV (Val.mk 9 i s t l f)=z at hz;cases z with
   |true=>exact .inl ⟨19,by decide,fun N hN=>yield_of [(14,.i (Int.ofNat (n+1))),(17,.b false),(20,.b false),(23,.p (boolX true))] (pf4 (next_nat (j:=n) hn) h1 h2 (hz N hN)) (by kernel_rfl)⟩
   |false=>
    cases b with
    |true=>
     cases h3:(!(c==0)) with
     |true=>exact .inl ⟨c,cr,fun N hN=>yield_of [(14,.i (Int.ofNat (n+1))),(17,.b false),(20,.b false),(23,.p (boolX false)),(35,.p (boolX true)),(42,.p (num c)),(44,.b true)] (pf7 (next_nat (j:=n) hn) h1 h2 (hz N hN) (hb N (by omega)) (hc N (by omega)) h3) (by kernel_rfl)⟩
     |false=>exact .inr ⟨small_of h1,fun N hN=>yield_of [(14,.i (Int.ofNat (n+1))),(17,.b false),(20,.b false),(23,.p (boolX false)),(35,.p (boolX true)),(42,.p (num c)),(44,.b false)] (pf7 (next_nat (j:=n) hn) h1 h2 (hz N hN) (hb N (by omega)) (hc N (by omega)) h3) (by kernel_rfl)⟩
    |false=>exact .inl ⟨3,by decide,fun N hN=>yield_of [(14,.i (Int.ofNat (n+1))),(17,.b false),(20,.b false),(23,.p (boolX false)),(35,.p (boolX false))] (pf5 (next_nat (j:=n) hn) h1 h2 (hz N hN) (hb N (by omega))) (by kernel_rfl)⟩
theorem round10 (i s:Int)(t:qaW)(l:List Val)(f:List (qaW×Val))(lev:Int)(n:Nat)(hn:n<4294967296):Round (Val.mk 10 i s t l f) lev n:=by
 obtain ⟨b,hb⟩:=uses10 i s t l f;obtain ⟨c,cr,hc⟩:=rule134 (Val.mk 10 i s t l f);apply round_succ;cases h1:decide (4096<Int.ofNat (n+1)) with
 |true=>exact .inl ⟨9,by decide,fun N hN=>yield_of [(14,.i (Int.ofNat (n+1))),(17,.b true)] (pf2 (next_nat (j:=n) hn) h1) (by kernel_rfl)⟩
 |false=>
  cases h2:decide (8<lev) with
  |true=>exact .inl ⟨23,by decide,fun N hN=>yield_of [(14,.i (Int.ofNat (n+1))),(17,.b false),(20,.b true)] (pf3 (next_nat (j:=n) hn) h1 h2) (by kernel_rfl)⟩
  |false=>
   have hz:=null_at (Val.mk 10 i s t l f);generalize nullV (Val.mk 10 i s t l f)=z at hz;cases z with
   |true=>exact .inl ⟨19,by decide,fun N hN=>yield_of [(14,.i (Int.ofNat (n+1))),(17,.b false),(20,.b false),(23,.p (boolX true))] (pf4 (next_nat (j:=n) hn) h1 h2 (hz N hN)) (by kernel_rfl)⟩
   |false=>
    cases b with
    |true=>
     cases h3:(!(c==0)) with
     |true=>exact .inl ⟨c,cr,fun N hN=>yield_of [(14,.i (Int.ofNat (n+1))),(17,.b false),(20,.b false),(23,.p (boolX false)),(35,.p (boolX true)),(42,.p (num c)),(44,.b true)] (pf7 (next_nat (j:=n) hn) h1 h2 (hz N hN) (hb N (by omega)) (hc N (by omega)) h3) (by kernel_rfl)⟩
     |false=>exact .inr ⟨small_of h1,fun N hN=>yield_of [(14,.i (Int.ofNat (n+1))),(17,.b false),(20,.b false),(23,.p (boolX false)),(35,.p (boolX true)),(42,.p (num c)),(44,.b false)] (pf7 (next_nat (j:=n) hn) h1 h2 (hz N hN) (hb N (by omega)) (hc N (by omega)) h3) (by kernel_rfl)⟩
    |false=>exact .inl ⟨3,by decide,fun N hN=>yield_of [(14,.i (Int.ofNat (n+1))),(17,.b false),(20,.b false),(23,.p (boolX false)),(35,.p (boolX false))] (pf5 (next_nat (j:=n) hn) h1 h2 (hz N hN) (hb N (by omega))) (by kernel_rfl)⟩
theorem round_comes (v:Val)(lev:Int)(n:Nat)(hn:n<4294967296):Round v lev n:=by
 obtain ⟨k,i,s,t,l,f⟩:=v;by_cases h:1<=k/\k<=10
 ·have:k=1\/k=2\/k=3\/k=4\/k=5\/k=6\/k=7\/k=8\/k=9\/k=10:=by omega
  rcases this with rfl|rfl|rfl|rfl|rfl|rfl|rfl|rfl|rfl|rfl
  ·grind[round1]
  ·grind[round2]
  ·grind[round3]
  ·grind[round4]
  ·grind[round5]
  ·grind[round6]
  ·grind[round7]
  ·grind[round8]
  ·grind[round9]
  grind[round10]
 apply round_succ;cases h1:decide (4096<Int.ofNat (n+1)) with
 |true=>exact .inl ⟨9,by decide,fun N hN=>yield_of [(14,.i (Int.ofNat (n+1))),(17,.b true)] (pf2 (next_nat (j:=n) hn) h1) (by kernel_rfl)⟩
 |false=>
  cases h2:decide (8<lev) with
  |true=>exact .inl ⟨23,by decide,fun N hN=>yield_of [(14,.i (Int.ofNat (n+1))),(17,.b false),(20,.b true)] (pf3 (next_nat (j:=n) hn) h1 h2) (by kernel_rfl)⟩
  |false=>
   have hz:=null_at (Val.mk k i s t l f);generalize nullV (Val.mk k i s t l f)=z at hz;cases z with
   |true=>exact .inl ⟨19,by decide,fun N hN=>yield_of [(14,.i (Int.ofNat (n+1))),(17,.b false),(20,.b false),(23,.p (boolX true))] (pf4 (next_nat (j:=n) hn) h1 h2 (hz N hN)) (by kernel_rfl)⟩
   |false=>
    cases h3:decide (k<1) with
    |true=>exact .inl ⟨11,by decide,fun N hN=>yield_of [(14,.i (Int.ofNat (n+1))),(17,.b false),(20,.b false),(23,.p (boolX false)),(27,.b true)] (pf5 (next_nat (j:=n) hn) h1 h2 (hz N hN) h3) (by kernel_rfl)⟩
    |false=>
     cases h4:decide (10<k) with
     |true=>exact .inl ⟨11,by decide,fun N hN=>yield_of [(14,.i (Int.ofNat (n+1))),(17,.b false),(20,.b false),(23,.p (boolX false)),(27,.b false),(31,.b true)] (pf6 (next_nat (j:=n) hn) h1 h2 (hz N hN) h3 h4) (by kernel_rfl)⟩
     |false=>grind
def Visit (v:Val)(lev n:Nat):Prop:=
 (∃(c:Int) (m:Nat),(0<=c/\c<=100)/\∀N,60020+v.size<=N->callF tab ext N (.fn 310) [.agg v.cells,nat lev,.yl 0] (goC n)=some (boolX false,endC c m))\/
 (∃m:Nat,(n<=m/\m<=4097)/\∀N,60020+v.size<=N->callF tab ext N (.fn 310) [.agg v.cells,nat lev,.yl 0] (goC n)=some (boolX true,goC m))
section
variable (ps:qaV) (lev len j n m:Nat) (c:Int) (u:List X)
noncomputable def viH:St:=⟨[(1,nat lev),(2,.yl 0),(15,.sl false 6 ps),(16,nat len),(17,nat j)],goC n⟩
noncomputable def viH':St:=⟨[(1,nat lev),(2,.yl 0),(15,.sl false 6 ps),(16,nat len),(17,nat j)],goC n++[.var u]⟩
noncomputable def viE:St:=⟨[(1,nat lev),(2,.yl 0),(15,.sl false 6 ps),(16,nat len),(17,nat j),(18,boolX false)],goC n⟩
theorem vi_canon:canon 4 (viH ps lev len j n)=some (viH ps lev len j n):=by kernel_rfl
theorem vi_canon':canon 4 (viH' ps lev len j n u)=some (viH ps lev len j n):=by kernel_rfl
end
theorem visit_loop {B:Nat}(ps:List Val)(lev:Nat)(hlev:lev<=100000)(hl:ps.length<=2000000)(hv:∀u,u∈ps->60020+u.size<=B/\∀n,n<=4097->lev<=n->Visit u (lev+1) n):∀d j n,j+d=ps.length->n<=4097->lev<=n->
  (∃(c:Int) (m:Nat) (u:List X),(0<=c/\c<=100)/\∀M F,B<=M->d<F->iter 4 (run (callF tab ext M) 4 M (loopAt 310 0)) F (viH (cellsL ps) lev (cellsL ps).length j n)=some (.ret,⟨[(6,boolX false)],endC c m++[.var u]⟩))\/
  (∃m:Nat,(n<=m/\m<=4097)/\∀M F,B<=M->d<F->iter 4 (run (callF tab ext M) 4 M (loopAt 310 0)) F (viH (cellsL ps) lev (cellsL ps).length j n)=some (.exit 0,viE (cellsL ps) lev (cellsL ps).length (cellsL ps).length m))
 |0,j,n,hj,hn,hln=>by
  have hc:=cellsL_length ps;have hj':j=(cellsL ps).length:=by omega
  subst hj';right;refine ⟨n,⟨Nat.le_refl _,hn⟩,fun M F _ hF=>?_⟩;obtain ⟨F',rfl⟩:∃F',F=F'+1:=⟨F-1,by omega⟩;exact iter_end (vi_canon ..) (run_of [(18,.b false)] [] (pf1 (nlt_nat (qar (cellsL ps).length))) (lo':=[]) (by kernel_rfl)) (by simp)
 |d+1,j,n,hj,hn,hln=>by
  have hc:=cellsL_length ps;have hj':j<ps.length:=by omega
  have hg:=cellsL_get hj';obtain ⟨hB,hu⟩:=hv _ (qal hj');have hu:=hu n hn hln;generalize ps[j]=u at hg hB hu;obtain ⟨u1,u2,u3,u4,u5,u6⟩:=u;have hlt:=lt_nat (j:=j) (k:=(cellsL ps).length) (by omega);have hnx:=next_nat (j:=lev) (by omega);rcases hu with ⟨c,m,cr,h⟩|⟨m,⟨hnm,hm⟩,h⟩;·left;refine ⟨c,m,(Val.mk u1 u2 u3 u4 u5 u6).cells,cr,fun M F hM hF=>?_⟩;obtain ⟨F',rfl⟩:∃F',F=F'+1:=⟨F-1,by omega⟩;exact iter_end (vi_canon ..) (run_of [(18,.b true),(19,.e (Val.mk u1 u2 u3 u4 u5 u6).cells),(23,.i (Int.ofNat (lev+1))),(25,.r (boolX false) (endC c m))] [] (pf4 hlt hg hnx (h M (by omega))) (lo':=[]) (by kernel_rfl)) (by simp)
  have hs:∀M,B<=M->run (callF tab ext M) 4 M (loopAt 310 0) (viH (cellsL ps) lev (cellsL ps).length j n)=some (.norm,viH' (cellsL ps) lev (cellsL ps).length (j+1) m (Val.mk u1 u2 u3 u4 u5 u6).cells):=fun M hM=>run_of [(18,.b true),(19,.e (Val.mk u1 u2 u3 u4 u5 u6).cells),(23,.i (Int.ofNat (lev+1))),(25,.r (boolX true) (goC m)),(27,.i (Int.ofNat (j+1)))] [] (pf5 hlt hg hnx (h M (by omega)) (next_nat (j:=j) (by omega))) (lo':=[]) (by kernel_rfl);rcases visit_loop ps lev hlev hl hv d (j+1) m (by omega) hm (by omega) with ⟨c,m',x,cr,h'⟩|⟨m',hm',h'⟩;·left;refine ⟨c,m',x,cr,fun M F hM hF=>?_⟩;obtain ⟨F',rfl⟩:∃F',F=F'+1:=⟨F-1,by omega⟩<;>simp_all[iter_step,vi_canon,iter_canon,vi_canon']
  right;refine ⟨m',⟨by omega,hm'.2⟩,fun M F hM hF=>?_⟩;obtain ⟨F',rfl⟩:∃F',F=F'+1:=⟨F-1,by omega⟩<;>simp_all[iter_step,vi_canon,iter_canon,vi_canon']
theorem partsV_size (v:Val):∀u,u∈partsV v->u.size<v.size:=by
 obtain ⟨k,i,s,t,l,f⟩:=v;intro u hu;simp only [partsV] at hu;simp only [Val.size];split at hu;·have:=sizeL_mem hu;omega
 split at hu;·obtain ⟨p,hp,rfl⟩:=qaC.1 hu;have:=sizeF_mem hp;omega
 grind
theorem partsV_length (v:Val):(partsV v).length<v.size:=by obtain ⟨k,i,s,t,l,f⟩:=v<;>grind[partsV,Val.size,sizeL_length,sizeF_length]
theorem partsV_few (v:Val)(hv:v.wide):(partsV v).length<=2000000/\∀u,u∈partsV v->u.wide:=by
 obtain ⟨k,i,s,t,l,f⟩:=v;simp only [Val.wide] at hv;obtain ⟨⟨h1,h2⟩,h3,h4⟩:=hv;simp only [partsV];split
 ·grind[wideL_mem]
 split
 ·refine ⟨by grind,fun u hu=>?_⟩;obtain ⟨p,hp,rfl⟩:=qaC.1 hu
  grind[wideF_mem]
 grind
theorem visit_comes:∀(sz:Nat) (v:Val),v.size<=sz->v.wide->∀(lev n:Nat),lev<=n+1->n<=4097->Visit v lev n
 |0,.mk ..,h,_,_,_,_,_=>by grind[Val.size]
 |sz+1,v,h,hv,lev,n,hlev,hn=>by
  have hr:=round_comes v (Int.ofNat lev) n (by omega);have hp:∀M,60019+v.size<=M->Gam.pureD (callF tab ext M) 379 [.agg v.cells]=some (.sl false 6 (cellsL (partsV v))):=fun M hM=>parts_wide M v (few_of_wide hv) (by omega);have hlen:=partsV_length v;have hfew:=partsV_few v hv;have hloop:∀n,n<=4097->lev<=n->_:=fun n hn hln=>visit_loop (B:=60019+v.size) (partsV v) lev (by omega) hfew.1 (fun u hu=>by have:=partsV_size v u hu;exact ⟨by omega,fun n hn hln=>visit_comes sz u (by omega) (hfew.2 u hu) (lev+1) n (by omega) hn⟩) (partsV v).length 0 n (by omega) hn hln;generalize partsV v=ps at hp hlen hloop;obtain ⟨k,i,s,t,l,f⟩:=v;rcases hr with ⟨c,cr,h⟩|⟨hn',h⟩;·refine .inl ⟨c,n+1,cr,fun N hN=>?_⟩;obtain ⟨M,rfl⟩:∃M,N=M+1:=⟨N-1,by omega⟩;exact callF_of [(12,.r (boolX false) (endC c (n+1)))] [] (pf1 (h M (by omega))) (by kernel_rfl)
  rcases hloop (n+1) (by omega) (by omega) with ⟨c,m,u,cr,h'⟩|⟨m,hm,h'⟩
  ·refine .inl ⟨c,m,cr,fun N hN=>?_⟩;obtain ⟨M,rfl⟩:∃M,N=M+1:=⟨N-1,by omega⟩;have hl:run (callF tab ext M) 4 M (.loop (loopAt 310 0)) (viH' (cellsL ps) lev (cellsL ps).length 0 (n+1) (Val.mk k i s t l f).cells)=some (.ret,⟨[(6,boolX false)],endC c m++[.var u]⟩):=by simp only [run];rw [iter_canon (vi_canon' ..) (vi_canon ..)];exact h' M M (by omega) (by omega)
   exact callF_of [(12,.r (boolX true) (goC (n+1))),(15,.p (.sl false 6 (cellsL ps)))] [(.ret,⟨[(6,boolX false)],endC c m++[.var u]⟩)] (pf3 (h M (by omega)) (hp M (by omega)) hl) (by kernel_rfl)
  refine .inr ⟨m,⟨by omega,hm.2⟩,fun N hN=>?_⟩;obtain ⟨M,rfl⟩:∃M,N=M+1:=⟨N-1,by omega⟩;have hl:run (callF tab ext M) 4 M (.loop (loopAt 310 0)) (viH' (cellsL ps) lev (cellsL ps).length 0 (n+1) (Val.mk k i s t l f).cells)=some (.exit 0,viE (cellsL ps) lev (cellsL ps).length (cellsL ps).length m):=by simp only [run];rw [iter_canon (vi_canon' ..) (vi_canon ..)];exact h' M M (by omega) (by omega)
  exact callF_of [(12,.r (boolX true) (goC (n+1))),(15,.p (.sl false 6 (cellsL ps)))] [(.exit 0,viE (cellsL ps) lev (cellsL ps).length (cellsL ps).length m)] (pf3 (h M (by omega)) (hp M (by omega)) hl) (by kernel_rfl)
noncomputable def rfSt (v:List X):St:=⟨[(2,.ptr 1 0 0),(3,.ptr 2 0 0),(4,.ptr 3 0 0),(10,.fn 309 [.dp v])],[.var v,.var [num 0],.var rulesX,.var [num 0]]⟩
noncomputable def rfFin (v:List X)(c:Int)(m:Nat):St:=⟨(rfSt v).tm,[.var v,.var [num c],.var rulesX,.var [nat m],.dead]⟩
theorem val_comesW (v:Val)(hv:v.wide):ComesE (60025+v.size) 158 [.agg v.cells]:=by
 have hvis:=visit_comes v.size v (Nat.le_refl _) hv 1 0 (by omega) (by omega);obtain ⟨k,i,s,t,l,f⟩:=v;generalize hsz:(Val.mk k i s t l f).size=sz at hvis;have hpre:∀N,3<=N->Gam.pureD (callF tab ext N) 231 [.agg (Val.mk k i s t l f).cells]=some (.fn 309 [.dp (Val.mk k i s t l f).cells]):=fun N hN=>by obtain ⟨M,rfl⟩:∃M,N=M+1:=⟨N-1,by omega⟩;exact pure_of [] [] pf0 (x:=.fn 309 [.dp (Val.mk k i s t l f).cells]) (bx:=[]) (by kernel_rfl) rfl
 have hrul:∀N,3<=N->Gam.pureD (callF tab ext N) 230 []=some (.agg rulesX):=fun N hN=>by obtain ⟨M,rfl⟩:∃M,N=M+1:=⟨N-1,by omega⟩;exact pure_of [] [] pf0 (x:=.agg rulesX) (bx:=[]) (by kernel_rfl) rfl
 unfold Visit at hvis;rw [hsz] at hvis;rcases hvis with ⟨c,m,cr,h⟩|⟨m,_,h⟩
 ·refine ⟨c,cr,fun N hN=>?_⟩;obtain ⟨M,rfl⟩:∃M,N=M+2:=⟨N-2,by omega⟩;have h5:callF tab ext (M+1) (.fn 309) [.yl 0,.dp (Val.mk k i s t l f).cells] (goC 0)=some (.tup [],endC c m):=
   callF_of [(5,.r (boolX false) (endC c m))] [] (pf1 (h M (by omega))) (by kernel_rfl)
  have hrf:run (callF tab ext (M+1)) 0 (M+1) (.rf (.t 10) [11,12] [2,3,4] (rfAt 158).1 (rfAt 158).2) (rfSt (Val.mk k i s t l f).cells)=some (.ret,rfFin (Val.mk k i s t l f).cells c m):=
   rf_of (g:=309) (caps:=[.dp (Val.mk k i s t l f).cells]) (y:=.tup []) (outb:=endC c m)
    (q:=(.tup [],[.var (Val.mk k i s t l f).cells,.var [num c],.var rulesX,.var [nat m],recC .done (some .ret)],[4,1,2,3])) h5 (by kernel_rfl) (by kernel_rfl) (by kernel_rfl)
  exact pure_of [(8,.p (.agg rulesX)),(10,.p (.fn 309 [.dp (Val.mk k i s t l f).cells]))] [(.ret,rfFin (Val.mk k i s t l f).cells c m)] (pf3 (hrul (M+1) (by omega)) (hpre (M+1) (by omega)) hrf) (x:=num c) (bx:=[]) (by kernel_rfl) rfl
 refine ⟨0,by decide,fun N hN=>?_⟩;obtain ⟨M,rfl⟩:∃M,N=M+2:=⟨N-2,by omega⟩;have h5:callF tab ext (M+1) (.fn 309) [.yl 0,.dp (Val.mk k i s t l f).cells] (goC 0)=some (.tup [],goC m):=
  callF_of [(5,.r (boolX true) (goC m))] [] (pf1 (h M (by omega))) (by kernel_rfl)
 have hrf:run (callF tab ext (M+1)) 0 (M+1) (.rf (.t 10) [11,12] [2,3,4] (rfAt 158).1 (rfAt 158).2) (rfSt (Val.mk k i s t l f).cells)=some (.norm,rfFin (Val.mk k i s t l f).cells 0 m):=
  rf_of (g:=309) (caps:=[.dp (Val.mk k i s t l f).cells]) (y:=.tup []) (outb:=goC m)
   (q:=(.tup [],[.var (Val.mk k i s t l f).cells,.var [num 0],.var rulesX,.var [nat m],recC .ready none],[4,1,2,3])) h5 (by kernel_rfl) (by kernel_rfl) (by kernel_rfl)
 exact pure_of [(8,.p (.agg rulesX)),(10,.p (.fn 309 [.dp (Val.mk k i s t l f).cells]))] [(.norm,rfFin (Val.mk k i s t l f).cells 0 m)] (pf3 (hrul (M+1) (by omega)) (hpre (M+1) (by omega)) hrf) (x:=num 0) (bx:=[]) (by kernel_rfl) rfl
theorem val_comesE (v:Val)(hv:v.ok):ComesE (60025+v.size) 158 [.agg v.cells]:=val_comesW v (wide_of_ok hv)
theorem val_comes (v:Val)(hv:v.ok):Comes (60025+v.size) 158 [.agg v.cells]:=by obtain ⟨c,_,h⟩:=val_comesE v hv;exact ⟨c,h⟩
theorem Comes.mono {B B':Nat}{f:FuncId}{args:List X}(h:Comes B f args)(hB:B<=B'):Comes B' f args:=by obtain ⟨c,h⟩:=h;exact ⟨c,fun N hN=>h N (by omega)⟩
theorem body_comes (v:Val)(hv:v.ok):Comes 120030 313 [.agg v.cells]:=by
 have hok:=hv;unfold Val.ok at hok;obtain ⟨c,hc⟩:=(val_comes v hv).mono (show 60025+v.size<=120029 by omega);have hz:∀N,120029<=N->Gam.pureD (callF tab ext N) 159 [.agg v.cells]=some (boolX (nullV v)):=fun N hN=>null_at v N (by omega);generalize nullV v=z at hz;obtain ⟨k,i,s,t,l,f⟩:=v;apply comes_succ;cases z with
 |true=>exact ⟨0,fun N hN=>pure_of [(5,.p (boolX true))] [] (pf1 (hz N hN)) (x:=num (0)) (bx:=[]) (by kernel_rfl) rfl⟩
 |false=>
  cases h1:(!(k==9)) with
  |true=>exact ⟨18,fun N hN=>pure_of [(5,.p (boolX false)),(9,.b true)] [] (pf2 (hz N hN) h1) (x:=num (18)) (bx:=[]) (by kernel_rfl) rfl⟩
  |false=>exact ⟨c,fun N hN=>pure_of [(5,.p (boolX false)),(9,.b false),(11,.p (num c))] [] (pf3 (hz N hN) h1 (hc N hN)) (x:=num (c)) (bx:=[]) (by kernel_rfl) rfl⟩
section
variable (m:List X) (o:qaV) (n j:Nat)
def mcH:St:=⟨[(1,.ptr 0 0 0),(27,.sl false 1 o),(28,nat n),(29,nat j)],[.var m]⟩
def mcE:St:=⟨[(1,.ptr 0 0 0),(27,.sl false 1 o),(28,nat n),(29,nat j),(30,boolX false)],[.var m]⟩
end
theorem orig_round (e mass:Int)(p:List Int)(o:List Int)(k i s:Int)(t:qaW)(l:List Val)(f:List (qaW×Val))(j:Nat)(hl:o.length<=60000)(hj:j<o.length):
  (∃r,(∃c:Int,r=⟨[(2,num c)],[.var (Msg.mk ⟨e,p⟩ mass o (Val.mk k i s t l f)).cells]⟩)/\∀M,2<=M->run (callF tab ext M) 0 M (loopAt 233 0) (mcH (Msg.mk ⟨e,p⟩ mass o (Val.mk k i s t l f)).cells (intsC o) (intsC o).length j)=some (.ret,r))\/
  (∃υ,canon 0 υ=some (mcH (Msg.mk ⟨e,p⟩ mass o (Val.mk k i s t l f)).cells (intsC o) (intsC o).length (j+1))/\∀M,2<=M->run (callF tab ext M) 0 M (loopAt 233 0) (mcH (Msg.mk ⟨e,p⟩ mass o (Val.mk k i s t l f)).cells (intsC o) (intsC o).length j)=some (.norm,υ)):=by
 have hn:=intsC_length o;have hg:=intsC_get hj;generalize o[j]=x at hg;obtain ⟨b,hb⟩:=entry_comes x;have hlt:=lt_nat (j:=j) (k:=(intsC o).length) (by omega);cases b with
 |false=>exact .inl ⟨_,⟨2,rfl⟩,fun M hM=>run_of [(30,.b true),(32,.e [num x]),(36,.p (boolX false))] [] (pf3 hlt hg (hb M hM)) (lo':=[]) (by kernel_rfl)⟩
 |true=>
  cases j with
  |zero=>exact .inr ⟨mcH (Msg.mk ⟨e,p⟩ mass o (Val.mk k i s t l f)).cells (intsC o) (intsC o).length (0+1),by kernel_rfl,fun M hM=>run_of [(30,.b true),(32,.e [num x]),(36,.p (boolX true)),(40,.b false),(51,.i (Int.ofNat (0+1)))] [] (pf5 hlt hg (hb M hM) zero_nat (next_nat (j:=0) (by omega))) (lo':=[]) (by kernel_rfl)⟩
  |succ j=>
   have hj':j<o.length:=by omega
   have hq:=intsC_get hj';generalize o[j]=y at hq;cases h1:decide (x<=y) with
   |true=>exact .inl ⟨_,⟨24,rfl⟩,fun M hM=>run_of [(30,.b true),(32,.e [num x]),(36,.p (boolX true)),(40,.b true),(46,.i (Int.ofNat j)),(47,.e [num y]),(49,.b true)] [] (pf7 hlt hg (hb M hM) (pos_nat (j:=j)) (pred_nat (j:=j) (by omega)) hq h1) (lo':=[]) (by kernel_rfl)⟩
   |false=>exact .inr ⟨mcH (Msg.mk ⟨e,p⟩ mass o (Val.mk k i s t l f)).cells (intsC o) (intsC o).length ((j+1)+1),by kernel_rfl,fun M hM=>run_of [(30,.b true),(32,.e [num x]),(36,.p (boolX true)),(40,.b true),(46,.i (Int.ofNat j)),(47,.e [num y]),(49,.b false),(51,.i (Int.ofNat ((j+1)+1)))] [] (pf8 hlt hg (hb M hM) (pos_nat (j:=j)) (pred_nat (j:=j) (by omega)) hq h1 (next_nat (j:=(j+1)) (by omega))) (lo':=[]) (by kernel_rfl)⟩
theorem msg_comes (m:Msg)(hm:m.ok):Comes 120040 233 [.agg m.cells]:=by
 obtain ⟨c1,hst⟩:=stamp_comes m.st hm.st;obtain ⟨b,hb⟩:=heavy_comes m.mass;obtain ⟨c3,hbd⟩:=body_comes m.body hm.body;have ho:=hm.orig;obtain ⟨⟨e,p⟩,mass,o,k,i,s,t,l,f⟩:=m;dsimp only at hst hb hbd ho;have hn:=intsC_length o;have:=scan (B:=2) (b:=loopAt 233 0) (H:=fun j=>mcH (Msg.mk ⟨e,p⟩ mass o (Val.mk k i s t l f)).cells (intsC o) (intsC o).length j) (τ:=mcH (Msg.mk ⟨e,p⟩ mass o (Val.mk k i s t l f)).cells (intsC o) (intsC o).length 0) (n:=(intsC o).length) (e:=.exit 1) (fin:=mcE (Msg.mk ⟨e,p⟩ mass o (Val.mk k i s t l f)).cells (intsC o) (intsC o).length (intsC o).length)
  (fun r=>∃c:Int,r=⟨[(2,num c)],[.var (Msg.mk ⟨e,p⟩ mass o (Val.mk k i s t l f)).cells]⟩) (by kernel_rfl) (fun j hj=>orig_round e mass p o k i s t l f j ho (by omega))
  (fun M _=>run_of [(30,.b false)] [] (pf1 (nlt_nat (qar (intsC o).length))) (lo':=[]) (by kernel_rfl)) (by simp)
 apply comes_succ;cases h1:(!(c1==0)) with
 |true=>exact ⟨c1,fun N hN=>pure_of [(8,.p (num c1)),(10,.b true)] [] (pf2 (hst N (by omega)) h1) (x:=num (c1)) (bx:=[]) (by kernel_rfl) rfl⟩
 |false=>
  cases b with
  |true=>exact ⟨38,fun N hN=>pure_of [(8,.p (num c1)),(10,.b false),(15,.p (boolX true))] [] (pf3 (hst N (by omega)) h1 (hb N (by omega))) (x:=num (38)) (bx:=[]) (by kernel_rfl) rfl⟩
  |false=>
   cases h2:(Int.ofNat (intsC o).length==0) with
   |true=>exact ⟨4,fun N hN=>pure_of [(8,.p (num c1)),(10,.b false),(15,.p (boolX false)),(20,.b true)] [] (pf4 (hst N (by omega)) h1 (hb N (by omega)) h2) (x:=num (4)) (bx:=[]) (by kernel_rfl) rfl⟩
   |false=>
    cases h3:decide (4096<Int.ofNat (intsC o).length) with
    |true=>exact ⟨9,fun N hN=>pure_of [(8,.p (num c1)),(10,.b false),(15,.p (boolX false)),(20,.b false),(25,.b true)] [] (pf5 (hst N (by omega)) h1 (hb N (by omega)) h2 h3) (x:=num (9)) (bx:=[]) (by kernel_rfl) rfl⟩
    |false=>
     rcases this with ⟨r,⟨c,rfl⟩,h⟩|h;·exact ⟨c,fun N hN=>pure_of [(8,.p (num c1)),(10,.b false),(15,.p (boolX false)),(20,.b false),(25,.b false)] [(.ret,⟨[(2,num c)],[.var (Msg.mk ⟨e,p⟩ mass o (Val.mk k i s t l f)).cells]⟩)] (pf6 (hst N (by omega)) h1 (hb N (by omega)) h2 h3 (h N (by omega) (by omega))) (x:=num c) (bx:=[]) (by kernel_rfl) rfl⟩
     exact ⟨c3,fun N hN=>pure_of [(8,.p (num c1)),(10,.b false),(15,.p (boolX false)),(20,.b false),(25,.b false),(54,.p (num c3))] [(.exit 1,mcE (Msg.mk ⟨e,p⟩ mass o (Val.mk k i s t l f)).cells (intsC o) (intsC o).length (intsC o).length)] (pf7 (hst N (by omega)) h1 (hb N (by omega)) h2 h3 (h N (by omega) (by omega)) (hbd N (by omega))) (x:=num c3) (bx:=[]) (by kernel_rfl) rfl⟩
def imH (l:qaV)(g:X)(n j:Nat):St:=⟨[(0,.sl false 10 l),(1,g),(7,nat n),(8,nat j)],[]⟩
theorem scanN {n B:Nat}(good:St->Prop)(h0:canon nIn τ=some (H 0))
  (hstep:∀j,j<n->(∃r,good r/\∀M,B<=M->run (callF tab ext M) nIn M b (H j)=some (.ret,r))\/(∃υ,canon nIn υ=some (H (j+1))/\∀M,B<=M->run (callF tab ext M) nIn M b (H j)=some (.norm,υ)))
  (hend:∀M,B<=M->run (callF tab ext M) nIn M b (H n)=some (e,fin)) (hne:e≠.norm):
  (∃r,good r/\∀M,B<=M->n<M->run (callF tab ext M) nIn M (.loop b) τ=some (.ret,r))\/(∀M,B<=M->n<M->run (callF tab ext M) nIn M (.loop b) τ=some (e,fin)):=by
 have key:∀d j,j+d=n->(∃r,good r/\∀M F υ,B<=M->d<F->canon nIn υ=some (H j)->iter nIn (run (callF tab ext M) nIn M b) F υ=some (.ret,r))\/(∀M F υ,B<=M->d<F->canon nIn υ=some (H j)->iter nIn (run (callF tab ext M) nIn M b) F υ=some (e,fin)):=by
  intro d;induction d with
  |zero=>
   intro j hj;have hjn:j=n:=by omega
   subst hjn;right;intro M F υ hM hF hc;obtain ⟨F',rfl⟩:∃F',F=F'+1:=⟨F-1,by omega⟩;exact iter_end hc (hend M hM) hne
  |succ d ih=>
   intro j hj;rcases hstep j (by omega) with ⟨r,hr,h⟩|⟨ω,hω,h⟩;·left;refine ⟨r,hr,fun M F υ hM hF hc=>?_⟩;obtain ⟨F',rfl⟩:∃F',F=F'+1:=⟨F-1,by omega⟩;exact iter_end hc (h M hM) (by simp)
   rcases ih (j+1) (by omega) with ⟨r,hr,h'⟩|h';·left;refine ⟨r,hr,fun M F υ hM hF hc=>?_⟩;obtain ⟨F',rfl⟩:∃F',F=F'+1:=⟨F-1,by omega⟩;exact iter_step hc (h M hM) (h' M F' ω hM (by omega) hω)
   right;intro M F υ hM hF hc;obtain ⟨F',rfl⟩:∃F',F=F'+1:=⟨F-1,by omega⟩;exact iter_step hc (h M hM) (h' M F' ω hM (by omega) hω)
 simp only [run];rcases key n 0 (by omega) with ⟨r,hr,h⟩|h;·exact .inl ⟨r,hr,fun M hM hn=>h M M τ hM hn h0⟩
 exact .inr fun M hM hn=>h M M τ hM hn h0
def ckB (f:Bool)(k v:Nat)(acc:qaV)(s:List X):List Bx:=
 if f then [.var [.bs 3 0 k,nat v],.dead,.var s,.row 10 acc] else [.var [.bs 1 0 k,nat v],.row 10 acc,.var s]
def ckH (f:Bool)(items:qaV)(n j k v:Nat)(acc:qaV)(s:List X):St:=
 ⟨[(0,.ptr 0 0 0),(3,.ptr 2 0 0),(21,.sl false 10 items),(22,nat n),(23,nat j)],ckB f k v acc s⟩
inductive BadCk:St->Prop
 |a (c:Int) (k v:Nat) (acc:qaV) (x y:Bx) (h:c≠0):BadCk ⟨[(4,num c)],[.var [.bs 1 0 k,nat v],.row 10 acc,x,y]⟩
 |b (c:Int) (k v:Nat) (acc:qaV) (x y:Bx) (h:c≠0):BadCk ⟨[(4,num c)],[.var [.bs 3 0 k,nat v],.dead,x,.row 10 acc,y]⟩
 |c (c:Int) (k v:Nat) (acc:qaV) (x:Bx) (h:c≠0):BadCk ⟨[(4,num c)],[.var [.bs 1 0 k,nat v],.row 10 acc,x]⟩
 |d (c:Int) (k v:Nat) (acc:qaV) (x:Bx) (h:c≠0):BadCk ⟨[(4,num c)],[.var [.bs 2 0 k,nat v],.dead,.row 10 acc,x]⟩
theorem data_row (acc:List Msg)(k i:Nat)(g:X)(bx:List Bx)(hb:bx[i]?=some (.row 10 (msgsC acc)))(hk:k=acc.length)(hg:g.data bx false=some g):dataL bx false [.bs i 0 k,g]=some [.sl false 10 (msgsC acc),g]:=by subst hk;have hl:=msgsC_length acc;simp only [dataL,X.data,rowOf,hb,Nat.zero_add,hl,Nat.le_refl,if_true,qaG,List.drop_zero,hg];rw [List.take_of_length_le (by omega)]
theorem ck_end (k0 i0 s0:Int)(t0:qaW)(l0 f0:qaV)(n0 d0:Int)(items vals:qaV)(n k v:Nat)(acc:qaV)(f:Bool)(M:Nat):
  run (callF tab ext M) 2 M (loopAt 160 0) (ckH f items n n k v acc (slotC k0 i0 s0 t0 l0 f0 n0 d0 items vals))=some (.exit 0,⟨[(0,.ptr 0 0 0),(3,.ptr 2 0 0),(21,.sl false 10 items),(22,nat n),(23,nat n),(24,boolX false)],ckB f k v acc (slotC k0 i0 s0 t0 l0 f0 n0 d0 items vals)⟩):=by
 cases f with
 |true=>exact run_of [(24,.b false)] [] (pf1 (nlt_nat (qar n))) (lo':=[]) (by kernel_rfl)
 |false=>exact run_of [(24,.b false)] [] (pf1 (nlt_nat (qar n))) (lo':=[]) (by kernel_rfl)
def cvB (f:Bool)(k v:Nat)(acc:qaV):List Bx:=if f then [.var [.bs 2 0 k,nat v],.dead,.row 10 acc] else [.var [.bs 1 0 k,nat v],.row 10 acc]
def cvSt (f:Bool)(vals:qaV)(n j k v:Nat)(acc:qaV):St:=⟨[(0,.ptr 0 0 0),(56,.sl false 6 vals),(57,nat n),(58,nat j)],cvB f k v acc⟩
def cvFin (f:Bool)(vals:qaV)(n j k v:Nat)(acc:qaV):St:=⟨[(0,.ptr 0 0 0),(56,.sl false 6 vals),(57,nat n),(58,nat j),(59,boolX false)],cvB f k v acc⟩
def scSt (st slots:qaV)(n j k v:Nat)(acc:qaV)(a b:Int):St:=
 ⟨[(1,.ptr 0 0 0),(4,.ptr 1 0 0),(22,.sl false 10 slots),(23,nat n),(24,nat j)],[.var [num a,num b,.sl false 10 st],.var [.bs 2 0 k,nat v],.row 10 acc]⟩
structure Stt.small (s:Stt):Prop where
 slots:s.slots.length<=100
 slot:∀x,x∈s.slots->x.ok/\x.items.length<=100/\x.vals.length<=100
theorem Stt.small.ok {s:Stt}(h:s.small):s.ok:=⟨by have:=h.slots;omega,fun x hx=>(h.slot x hx).1⟩
def accOf (l:List Slt):List Msg:=l.flatMap (·.items)
def valsOf:List Slt->Nat
 |[]=>0
 |x::r=>(cellsL x.vals).length+valsOf r
theorem valsOf_append:∀(l:List Slt) (x:Slt),valsOf (l++[x])=valsOf l+(cellsL x.vals).length
 |[],x=>by simp [valsOf]
 |y::l,x=>by simp only [List.cons_append,valsOf,valsOf_append l x];omega
theorem accOf_append (l:List Slt)(x:Slt):accOf (l++[x])=accOf l++x.items:=by simp [accOf]
theorem accOf_length:∀(l:List Slt),(∀x,x∈l->x.items.length<=100)->(accOf l).length<=100*l.length
 |[],_=>by simp [accOf]
 |y::l,h=>by
  have h1:=h y (by simp);have h2:=accOf_length l fun x hx=>h x (by simp [hx]);have h3:(accOf (y::l)).length=y.items.length+(accOf l).length:=by simp [accOf]
  rw [h3,qaI];omega
theorem valsOf_le:∀(l:List Slt),(∀x,x∈l->x.vals.length<=100)->valsOf l<=100*l.length
 |[],_=>by simp [valsOf]
 |y::l,h=>by have h1:=h y (by simp);have h2:=valsOf_le l fun x hx=>h x (by simp [hx]);simp only [valsOf,qaI,cellsL_length];omega
theorem scanP {n B:Nat}(P:Nat->Bool)(r υ:Nat->St)(h0:canon nIn τ=some (H 0))
  (hT:∀j,j<n->P j=true->∀M,B<=M->run (callF tab ext M) nIn M b (H j)=some (.ret,r j)) (hF:∀j,j<n->P j=false->canon nIn (υ j)=some (H (j+1))/\∀M,B<=M->run (callF tab ext M) nIn M b (H j)=some (.norm,υ j))
  (hend:∀M,B<=M->run (callF tab ext M) nIn M b (H n)=some (e,fin)) (hne:e≠.norm):
  (∃j,j<n/\P j=true/\(∀i,i<j->P i=false)/\∀M,B<=M->n<M->run (callF tab ext M) nIn M (.loop b) τ=some (.ret,r j))\/((∀j,j<n->P j=false)/\∀M,B<=M->n<M->run (callF tab ext M) nIn M (.loop b) τ=some (e,fin)):=by
 have key:∀d j,j+d=n->(∀i,i<j->P i=false)->(∃k,k<n/\P k=true/\(∀i,i<k->P i=false)/\∀M F ω,B<=M->d<F->canon nIn ω=some (H j)->iter nIn (run (callF tab ext M) nIn M b) F ω=some (.ret,r k))\/((∀j,j<n->P j=false)/\∀M F ω,B<=M->d<F->canon nIn ω=some (H j)->iter nIn (run (callF tab ext M) nIn M b) F ω=some (e,fin)):=by
  intro d;induction d with
  |zero=>
   intro j hj hall;have hjn:j=n:=by omega
   subst hjn;refine .inr ⟨hall,fun M F ω hM hF' hc=>?_⟩;obtain ⟨F',rfl⟩:∃F',F=F'+1:=⟨F-1,by omega⟩;exact iter_end hc (hend M hM) hne
  |succ d ih=>
   intro j hj hall;cases hP:P j with
   |true=>refine .inl ⟨j,by omega,hP,hall,fun M F ω hM hF' hc=>?_⟩;obtain ⟨F',rfl⟩:∃F',F=F'+1:=⟨F-1,by omega⟩;exact iter_end hc (hT j (by omega) hP M hM) (by simp)
   |false=>
    obtain ⟨hυ,hs⟩:=hF j (by omega) hP;rcases ih (j+1) (by omega) (fun i hi=>by
     rcases Nat.lt_or_ge i j with h|h;·exact hall i h
     rw [show i=j by omega];exact hP) with ⟨k,hk,hPk,hlt,h'⟩|⟨ha,h'⟩
    ·refine .inl ⟨k,hk,hPk,hlt,fun M F ω hM hF' hc=>?_⟩;obtain ⟨F',rfl⟩:∃F',F=F'+1:=⟨F-1,by omega⟩;exact iter_step hc (hs M hM) (h' M F' _ hM (by omega) hυ)
    refine .inr ⟨ha,fun M F ω hM hF' hc=>?_⟩;obtain ⟨F',rfl⟩:∃F',F=F'+1:=⟨F-1,by omega⟩;exact iter_step hc (hs M hM) (h' M F' _ hM (by omega) hυ)
 simp only [run];rcases key n 0 (by omega) (fun i hi=>by omega) with ⟨k,h1,h2,h3,h⟩|⟨ha,h⟩;·exact .inl ⟨k,h1,h2,h3,fun M hM hn=>h M M τ hM hn h0⟩
 exact .inr ⟨ha,fun M hM hn=>h M M τ hM hn h0⟩
theorem first_not {P:Nat->Prop}:∀n:Nat,(∀j,j<n->P j)\/∃j,j<n/\¬P j/\∀i,i<j->P i
 |0=>.inl fun j hj=>by omega
 |n+1=>by
  rcases first_not (P:=P) n with h|⟨j,hj,h1,h2⟩
  ·by_cases hn:P n
   ·exact .inl fun j hj=>by
     rcases Nat.lt_or_eq_of_le (Nat.le_of_lt_succ hj) with h'|h';·exact h j h'
     rw [h'];exact hn
   exact .inr ⟨n,by omega,hn,h⟩
  exact .inr ⟨j,by omega,h1,h2⟩
theorem scanX {n B:Nat}{P:Nat->Prop}(good:St->Prop)(h0:canon nIn τ=some (H 0))
  (hstep:∀j,j<n->(¬P j/\∃r,good r/\∀M,B<=M->run (callF tab ext M) nIn M b (H j)=some (.ret,r))\/(P j/\∃υ,canon nIn υ=some (H (j+1))/\∀M,B<=M->run (callF tab ext M) nIn M b (H j)=some (.norm,υ)))
  (hend:∀M,B<=M->run (callF tab ext M) nIn M b (H n)=some (e,fin)) (hne:e≠.norm):
  (¬(∀j,j<n->P j)/\∃r,good r/\∀M,B<=M->n<M->run (callF tab ext M) nIn M (.loop b) τ=some (.ret,r))\/((∀j,j<n->P j)/\∀M,B<=M->n<M->run (callF tab ext M) nIn M (.loop b) τ=some (e,fin)):=by
 have norm:∀j,j<n->P j->∃υ,canon nIn υ=some (H (j+1))/\∀M,B<=M->run (callF tab ext M) nIn M b (H j)=some (.norm,υ):=fun j hj hp=>by
  rcases hstep j hj with ⟨h,_⟩|⟨_,h⟩;·exact absurd hp h
  exact h
 rcases first_not (P:=P) n with h|⟨j,hj,h1,h2⟩
 ·right;refine ⟨h,?_⟩;rcases scanN (fun _=>False) h0 (fun j hj=>.inr (norm j hj (h j hj))) hend hne with ⟨_,hF,_⟩|h';·exact hF.elim
  exact h'
 left;refine ⟨fun h=>h1 (h j hj),?_⟩;rcases hstep j hj with ⟨_,r,hr,hrun⟩|⟨hp,_⟩
 ·refine ⟨r,hr,fun M hM hn=>?_⟩;rcases scanN (fun _=>False) h0 (fun i hi=>.inr (norm i (by omega) (h2 i hi))) hrun (by simp) with ⟨_,hF,_⟩|h';·exact hF.elim
  exact h' M hM (by omega)
 exact absurd hp h1
noncomputable def chkM (m:Msg):Int:=open Classical in if h:m.ok then Classical.choose (msg_comes m h) else 0
theorem chkM_at {m:Msg}(hm:m.ok):∀N,120040<=N->Gam.pureD (callF tab ext N) 233 [.agg m.cells]=some (num (chkM m)):=by have:=Classical.choose_spec (msg_comes m hm);unfold chkM;rw [dif_pos hm];exact this
noncomputable def chkV (v:Val):Int:=open Classical in if h:v.ok then Classical.choose (val_comes v h) else 0
theorem chkV_at (hv:v.ok):∀N,60025+v.size<=N->Gam.pureD (callF tab ext N) 158 [.agg v.cells]=some (num (chkV v)):=by have:=Classical.choose_spec (val_comes v hv);unfold chkV;rw [dif_pos hv];exact this
def chkN (x y:Int):Int:=if decide (x< -999999999999999) then 2 else if decide (999999999999999<x) then 2 else if decide (y<0) then 2 else if decide (17592186044416<y) then 2 else 0
theorem chkN_at (x y:Int):∀N,2<=N->Gam.pureD (callF tab ext N) 157 [num x,num y]=some (num (chkN x y)):=fun N hN=>by
 obtain ⟨M,rfl⟩:∃M,N=M+1:=⟨N-1,by omega⟩;unfold chkN;cases h1:decide (x< -999999999999999) with
 |true=>exact pure_of [(6,.b true)] [] (pf1 h1) (x:=num (2)) (bx:=[]) (by kernel_rfl) rfl
 |false=>
  cases h2:decide (999999999999999<x) with
  |true=>exact pure_of [(6,.b false),(9,.b true)] [] (pf2 h1 h2) (x:=num (2)) (bx:=[]) (by kernel_rfl) rfl
  |false=>
   cases h3:decide (y<0) with
   |true=>exact pure_of [(6,.b false),(9,.b false),(13,.b true)] [] (pf3 h1 h2 h3) (x:=num (2)) (bx:=[]) (by kernel_rfl) rfl
   |false=>
    cases h4:decide (17592186044416<y) with
    |true=>exact pure_of [(6,.b false),(9,.b false),(13,.b false),(17,.b true)] [] (pf4 h1 h2 h3 h4) (x:=num (2)) (bx:=[]) (by kernel_rfl) rfl
    |false=>exact pure_of [(6,.b false),(9,.b false),(13,.b false),(17,.b false)] [] (pf4 h1 h2 h3 h4) (x:=num (0)) (bx:=[]) (by kernel_rfl) rfl
def Pck (k:Nat)(c:Int)(b:Bool):Bool:=if Int.ofNat k==256 then false else if !(c==0) then false else !b
def Pcv (v:Nat)(c:Int):Bool:=if Int.ofNat v==4096 then false else if !(c==0) then false else true
def hasSt (l:List Msg)(m:Msg):Bool:=l.any fun o=>cmpS o.st m.st==0
theorem same_stamp_at (m:Msg)(o:Msg)(ho:o.ok):∀N,60015<=N->Gam.pureD (callF tab ext N) 235 [.agg o.cells,.dp m.cells]=some (boolX (cmpS o.st m.st==0)):=fun N hN=>by obtain ⟨M,rfl⟩:∃M,N=M+1:=⟨N-1,by omega⟩;have h:Gam.pureD (callF tab ext M) 46 [.agg o.st.cells,.agg m.st.cells]=some (boolX (cmpS o.st m.st==0)):=eq_stamp M o.st m.st (by have:=ho.st.p;omega) (by have:=ho.st.p;omega);generalize (cmpS o.st m.st==0)=b at h;obtain ⟨⟨a1,a2⟩,a3,a4,a5,a6,a7,a8,a9,a0⟩:=o;obtain ⟨⟨b1,b2⟩,b3,b4,b5,b6,b7,b8,b9,b0⟩:=m;exact pure_of [(8,.p (boolX b))] [] (pf1 h) (x:=boolX b) (bx:=[]) (by kernel_rfl) rfl
theorem contains_ex (m:Msg)(l:List Msg)(hl:l.length<=60000)(hok:∀o,o∈l->o.ok):∀N,60018<=N->Gam.pureD (callF tab ext N) 234 [.sl false 10 (msgsC l),.fn 235 [.dp m.cells]]=some (boolX (hasSt l m)):=by
 have hn:=msgsC_length l;have hs:=scanX (nIn:=0) (P:=fun j=>∀h:j<l.length,¬(cmpS l[j].st m.st==0)=true) (B:=60015) (b:=loopAt 314 0) (H:=fun j=>imH (msgsC l) (.fn 235 [.dp m.cells]) (msgsC l).length j) (τ:=imH (msgsC l) (.fn 235 [.dp m.cells]) (msgsC l).length 0) (n:=(msgsC l).length) (e:=.exit 0)
  (fin:=⟨[(0,.sl false 10 (msgsC l)),(1,.fn 235 [.dp m.cells]),(7,nat (msgsC l).length),(8,nat (msgsC l).length),(9,boolX false)],[]⟩) (fun r=>∃k:Nat,r=⟨[(4,nat k)],[]⟩) (by cases m;kernel_rfl) (fun j hj=>by
   have hj':j<l.length:=by omega
   have hg:=msgsC_get hj';have hb:=same_stamp_at m l[j] (hok _ (qal hj'));have hPj:(∀h:j<l.length,¬(cmpS l[j].st m.st==0)=true)↔¬(cmpS l[j].st m.st==0)=true:=⟨fun h=>h hj',fun h _=>h⟩;rw [hPj];generalize (cmpS l[j].st m.st==0)=b at hb ⊢;generalize l[j]=o at hg hb;obtain ⟨⟨a1,a2⟩,a3,a4,a5,a6,a7,a8,a9,a0⟩:=o;obtain ⟨⟨b1,b2⟩,b3,b4,b5,b6,b7,b8,b9,b0⟩:=m;cases b with
   |true=>exact .inl ⟨by simp,⟨[(4,nat j)],[]⟩,⟨j,rfl⟩,fun M hM=>run_of [(9,.b true),(14,.e (Msg.mk ⟨a1,a2⟩ a3 a4 (Val.mk a5 a6 a7 a8 a9 a0)).cells),(16,.p (boolX true))] [] (pf3 (lt_nat (j:=j) (k:=(msgsC l).length) (by omega)) hg (hb M hM)) (lo':=[]) (by kernel_rfl)⟩
   |false=>exact .inr ⟨by simp,imH (msgsC l) (.fn 235 [.dp (Msg.mk ⟨b1,b2⟩ b3 b4 (Val.mk b5 b6 b7 b8 b9 b0)).cells]) (msgsC l).length (j+1),by kernel_rfl,fun M hM=>run_of [(9,.b true),(14,.e (Msg.mk ⟨a1,a2⟩ a3 a4 (Val.mk a5 a6 a7 a8 a9 a0)).cells),(16,.p (boolX false)),(18,.i (Int.ofNat (j+1)))] [] (pf4 (lt_nat (j:=j) (k:=(msgsC l).length) (by omega)) hg (hb M hM) (next_nat (j:=j) (by omega))) (lo':=[]) (by kernel_rfl)⟩)
  (fun M _=>run_of [(9,.b false)] [] (pf1 (nlt_nat (qar (msgsC l).length))) (lo':=[]) (by kernel_rfl)) (by simp)
 have hi:∀N,60017<=N->∃c:Int,decide (0<=c)=hasSt l m/\Gam.pureD (callF tab ext N) 314 [.sl false 10 (msgsC l),.fn 235 [.dp m.cells]]=some (num c):=fun N hN=>by
  obtain ⟨M,rfl⟩:∃M,N=M+1:=⟨N-1,by omega⟩;rcases hs with ⟨hP,r,⟨k,rfl⟩,h⟩|⟨hP,h⟩
  ·refine ⟨Int.ofNat k,?_,?_⟩
   ·have e2:hasSt l m=true:=by refine Classical.byContradiction fun hh=>hP fun j _ h' h''=>hh ?_;exact List.any_eq_true.2 ⟨_,qal h',h''⟩
    rw [e2];exact decide_eq_true (Int.natCast_nonneg k)
   obtain ⟨⟨b1,b2⟩,b3,b4,b5,b6,b7,b8,b9,b0⟩:=m;exact pure_of [] [(.ret,⟨[(4,nat k)],[]⟩)] (pf1 (h M (by omega) (by omega))) (x:=nat k) (bx:=[]) (by kernel_rfl) rfl
  refine ⟨-1,?_,?_⟩
  ·have e2:hasSt l m=false:=by refine Bool.eq_false_iff.2 fun hh=>?_;obtain ⟨o,ho,h1⟩:=List.any_eq_true.1 hh;obtain ⟨j,hj,rfl⟩:=List.mem_iff_getElem.1 ho;exact hP j (by omega) hj h1
   rw [e2];rfl
  obtain ⟨⟨b1,b2⟩,b3,b4,b5,b6,b7,b8,b9,b0⟩:=m;exact pure_of [] [(.exit 0,⟨[(0,.sl false 10 (msgsC l)),(1,.fn 235 [.dp (Msg.mk ⟨b1,b2⟩ b3 b4 (Val.mk b5 b6 b7 b8 b9 b0)).cells]),(7,nat (msgsC l).length),(8,nat (msgsC l).length),(9,boolX false)],[]⟩)] (pf1 (h M (by omega) (by omega))) (x:=num (-1)) (bx:=[]) (by kernel_rfl) rfl
 intro N hN;obtain ⟨M,rfl⟩:∃M,N=M+1:=⟨N-1,by omega⟩;obtain ⟨c,hc,h⟩:=hi M (by omega);rw [<-hc];obtain ⟨⟨b1,b2⟩,b3,b4,b5,b6,b7,b8,b9,b0⟩:=m;exact pure_of [(7,.p (num c))] [] (pf1 h) (x:=boolX (decide (0<=c))) (bx:=[]) (by kernel_rfl) rfl
set_option linter.unusedSimpArgs false
theorem xk_round_false (k0 i0 s0:Int)(t0:qaW)(l0 f0:qaV)(n0 d0:Int)(items vals:qaV)(n j k v:Nat)(acc:List Msg)(m:Msg)(hm:m.ok)(hacc:∀o,o∈acc->o.ok)(hk:k=acc.length)(hkl:acc.length<=60000)(hj:j<n)(hn:n<=60000)(hg:items[j]?=some m.cells):
  (¬Pck k (chkM m) (hasSt acc m)=true/\∃r,BadCk r/\∀M,120040<=M->run (callF tab ext M) 2 M (loopAt 160 0) (ckH false items n j k v (msgsC acc) (slotC k0 i0 s0 t0 l0 f0 n0 d0 items vals))=some (.ret,r))\/
  (Pck k (chkM m) (hasSt acc m)=true/\∃υ,canon 2 υ=some (ckH true items n (j+1) (k+1) v (msgsC acc++[m.cells]) (slotC k0 i0 s0 t0 l0 f0 n0 d0 items vals))/\∀M,120040<=M->run (callF tab ext M) 2 M (loopAt 160 0) (ckH false items n j k v (msgsC acc) (slotC k0 i0 s0 t0 l0 f0 n0 d0 items vals))=some (.norm,υ)):=by
 have hc:=chkM_at hm;generalize chkM m=c at hc ⊢;have hb:=contains_ex m acc hkl hacc;generalize hasSt acc m=b at hb ⊢;have hlt:=lt_nat hj;have hal:=msgsC_length acc;obtain ⟨⟨a1,a2⟩,a3,a4,a5,a6,a7,a8,a9,a0⟩:=m;cases h1:(Int.ofNat k==256) with
 |true=>exact .inl ⟨(by first|simp only [Pck,h1,h2,if_true,if_false,qap,Bool.not_true,Bool.not_false,reduceCtorEq,not_false_eq_true,not_true_eq_false]|simp only [Pck,h1,if_true,if_false,qap,Bool.not_true,Bool.not_false,reduceCtorEq,not_false_eq_true,not_true_eq_false]|simp only [Pck,if_true,if_false,qap,Bool.not_true,Bool.not_false,reduceCtorEq,not_false_eq_true,not_true_eq_false]),⟨[(4,num 9)],[.var [.bs 1 0 k,nat v],.row 10 (msgsC acc),.var (slotC k0 i0 s0 t0 l0 f0 n0 d0 items vals),.var (Msg.mk ⟨a1,a2⟩ a3 a4 (Val.mk a5 a6 a7 a8 a9 a0)).cells]⟩,.a _ _ _ _ _ _ (by decide),fun M hM=>run_of [(24,.b true),(25,.e (Msg.mk ⟨a1,a2⟩ a3 a4 (Val.mk a5 a6 a7 a8 a9 a0)).cells),(32,.b true)] [] (pf3 hlt hg h1) (lo':=[]) (by kernel_rfl)⟩
 |false=>
  cases h2:(!(c==0)) with
  |true=>exact .inl ⟨(by first|simp only [Pck,h1,h2,if_true,if_false,qap,Bool.not_true,Bool.not_false,reduceCtorEq,not_false_eq_true,not_true_eq_false]|simp only [Pck,h1,if_true,if_false,qap,Bool.not_true,Bool.not_false,reduceCtorEq,not_false_eq_true,not_true_eq_false]|simp only [Pck,if_true,if_false,qap,Bool.not_true,Bool.not_false,reduceCtorEq,not_false_eq_true,not_true_eq_false]),⟨[(4,num c)],[.var [.bs 1 0 k,nat v],.row 10 (msgsC acc),.var (slotC k0 i0 s0 t0 l0 f0 n0 d0 items vals),.var (Msg.mk ⟨a1,a2⟩ a3 a4 (Val.mk a5 a6 a7 a8 a9 a0)).cells]⟩,.a _ _ _ _ _ _ (by intro h0;rw [h0] at h2;cases h2),fun M hM=>run_of [(24,.b true),(25,.e (Msg.mk ⟨a1,a2⟩ a3 a4 (Val.mk a5 a6 a7 a8 a9 a0)).cells),(32,.b false),(34,.p (num c)),(36,.b true)] [] (pf5 hlt hg h1 (hc M (by omega)) h2) (lo':=[]) (by kernel_rfl)⟩
  |false=>
   cases b with
   |true=>exact .inl ⟨(by first|simp only [Pck,h1,h2,if_true,if_false,qap,Bool.not_true,Bool.not_false,reduceCtorEq,not_false_eq_true,not_true_eq_false]|simp only [Pck,h1,if_true,if_false,qap,Bool.not_true,Bool.not_false,reduceCtorEq,not_false_eq_true,not_true_eq_false]|simp only [Pck,if_true,if_false,qap,Bool.not_true,Bool.not_false,reduceCtorEq,not_false_eq_true,not_true_eq_false]),⟨[(4,num 7)],[.var [.bs 1 0 k,nat v],.row 10 (msgsC acc),.var (slotC k0 i0 s0 t0 l0 f0 n0 d0 items vals),.dead]⟩,.a _ _ _ _ _ _ (by decide),fun M hM=>run_of [(24,.b true),(25,.e (Msg.mk ⟨a1,a2⟩ a3 a4 (Val.mk a5 a6 a7 a8 a9 a0)).cells),(32,.b false),(34,.p (num c)),(36,.b false),(43,.d [.sl false 10 (msgsC acc),.fn 235 [.dp (Msg.mk ⟨a1,a2⟩ a3 a4 (Val.mk a5 a6 a7 a8 a9 a0)).cells]] (boolX true))] [] (pf6 hlt hg h1 (hc M (by omega)) h2 (⟨(data_row acc k 1 (.fn 235 [.dp (Msg.mk ⟨a1,a2⟩ a3 a4 (Val.mk a5 a6 a7 a8 a9 a0)).cells]) [.var [.bs 1 0 k,nat v],.row 10 (msgsC acc),.var (slotC k0 i0 s0 t0 l0 f0 n0 d0 items vals),.dead] rfl hk (by kernel_rfl)),hb M (by omega)⟩:_/\_)) (lo':=[]) (by kernel_rfl)⟩
   |false=>exact .inr ⟨(by first|simp only [Pck,h1,h2,if_true,if_false,qap,Bool.not_true,Bool.not_false,reduceCtorEq,not_false_eq_true,not_true_eq_false]|simp only [Pck,h1,if_true,if_false,qap,Bool.not_true,Bool.not_false,reduceCtorEq,not_false_eq_true,not_true_eq_false]|simp only [Pck,if_true,if_false,qap,Bool.not_true,Bool.not_false,reduceCtorEq,not_false_eq_true,not_true_eq_false]),⟨[(0,.ptr 0 0 0),(3,.ptr 2 0 0),(21,.sl false 10 items),(22,nat n),(23,nat (j+1))],[.var [.bs 4 0 (k+1),nat v],.dead,.var (slotC k0 i0 s0 t0 l0 f0 n0 d0 items vals),.dead,.row 10 (msgsC acc++[(Msg.mk ⟨a1,a2⟩ a3 a4 (Val.mk a5 a6 a7 a8 a9 a0)).cells])]⟩,by kernel_rfl,fun M hM=>run_of [(24,.b true),(25,.e (Msg.mk ⟨a1,a2⟩ a3 a4 (Val.mk a5 a6 a7 a8 a9 a0)).cells),(32,.b false),(34,.p (num c)),(36,.b false),(43,.d [.sl false 10 (msgsC acc),.fn 235 [.dp (Msg.mk ⟨a1,a2⟩ a3 a4 (Val.mk a5 a6 a7 a8 a9 a0)).cells]] (boolX false)),(51,.app),(54,.i (Int.ofNat (j+1)))] [] (pf8 hlt hg h1 (hc M (by omega)) h2 (⟨(data_row acc k 1 (.fn 235 [.dp (Msg.mk ⟨a1,a2⟩ a3 a4 (Val.mk a5 a6 a7 a8 a9 a0)).cells]) [.var [.bs 1 0 k,nat v],.row 10 (msgsC acc),.var (slotC k0 i0 s0 t0 l0 f0 n0 d0 items vals),.dead] rfl hk (by kernel_rfl)),hb M (by omega)⟩:_/\_) (app_ok (acc:=msgsC acc) k 1 152 (by omega) (by omega) (by omega)) (next_nat (j:=j) (by omega))) (lo':=[]) (by kernel_rfl)⟩
theorem xk_round_true (k0 i0 s0:Int)(t0:qaW)(l0 f0:qaV)(n0 d0:Int)(items vals:qaV)(n j k v:Nat)(acc:List Msg)(m:Msg)(hm:m.ok)(hacc:∀o,o∈acc->o.ok)(hk:k=acc.length)(hkl:acc.length<=60000)(hj:j<n)(hn:n<=60000)(hg:items[j]?=some m.cells):
  (¬Pck k (chkM m) (hasSt acc m)=true/\∃r,BadCk r/\∀M,120040<=M->run (callF tab ext M) 2 M (loopAt 160 0) (ckH true items n j k v (msgsC acc) (slotC k0 i0 s0 t0 l0 f0 n0 d0 items vals))=some (.ret,r))\/
  (Pck k (chkM m) (hasSt acc m)=true/\∃υ,canon 2 υ=some (ckH true items n (j+1) (k+1) v (msgsC acc++[m.cells]) (slotC k0 i0 s0 t0 l0 f0 n0 d0 items vals))/\∀M,120040<=M->run (callF tab ext M) 2 M (loopAt 160 0) (ckH true items n j k v (msgsC acc) (slotC k0 i0 s0 t0 l0 f0 n0 d0 items vals))=some (.norm,υ)):=by
 have hc:=chkM_at hm;generalize chkM m=c at hc ⊢;have hb:=contains_ex m acc hkl hacc;generalize hasSt acc m=b at hb ⊢;have hlt:=lt_nat hj;have hal:=msgsC_length acc;obtain ⟨⟨a1,a2⟩,a3,a4,a5,a6,a7,a8,a9,a0⟩:=m;cases h1:(Int.ofNat k==256) with
 |true=>exact .inl ⟨(by first|simp only [Pck,h1,h2,if_true,if_false,qap,Bool.not_true,Bool.not_false,reduceCtorEq,not_false_eq_true,not_true_eq_false]|simp only [Pck,h1,if_true,if_false,qap,Bool.not_true,Bool.not_false,reduceCtorEq,not_false_eq_true,not_true_eq_false]|simp only [Pck,if_true,if_false,qap,Bool.not_true,Bool.not_false,reduceCtorEq,not_false_eq_true,not_true_eq_false]),⟨[(4,num 9)],[.var [.bs 3 0 k,nat v],.dead,.var (slotC k0 i0 s0 t0 l0 f0 n0 d0 items vals),.row 10 (msgsC acc),.var (Msg.mk ⟨a1,a2⟩ a3 a4 (Val.mk a5 a6 a7 a8 a9 a0)).cells]⟩,.b _ _ _ _ _ _ (by decide),fun M hM=>run_of [(24,.b true),(25,.e (Msg.mk ⟨a1,a2⟩ a3 a4 (Val.mk a5 a6 a7 a8 a9 a0)).cells),(32,.b true)] [] (pf3 hlt hg h1) (lo':=[]) (by kernel_rfl)⟩
 |false=>
  cases h2:(!(c==0)) with
  |true=>exact .inl ⟨(by first|simp only [Pck,h1,h2,if_true,if_false,qap,Bool.not_true,Bool.not_false,reduceCtorEq,not_false_eq_true,not_true_eq_false]|simp only [Pck,h1,if_true,if_false,qap,Bool.not_true,Bool.not_false,reduceCtorEq,not_false_eq_true,not_true_eq_false]|simp only [Pck,if_true,if_false,qap,Bool.not_true,Bool.not_false,reduceCtorEq,not_false_eq_true,not_true_eq_false]),⟨[(4,num c)],[.var [.bs 3 0 k,nat v],.dead,.var (slotC k0 i0 s0 t0 l0 f0 n0 d0 items vals),.row 10 (msgsC acc),.var (Msg.mk ⟨a1,a2⟩ a3 a4 (Val.mk a5 a6 a7 a8 a9 a0)).cells]⟩,.b _ _ _ _ _ _ (by intro h0;rw [h0] at h2;cases h2),fun M hM=>run_of [(24,.b true),(25,.e (Msg.mk ⟨a1,a2⟩ a3 a4 (Val.mk a5 a6 a7 a8 a9 a0)).cells),(32,.b false),(34,.p (num c)),(36,.b true)] [] (pf5 hlt hg h1 (hc M (by omega)) h2) (lo':=[]) (by kernel_rfl)⟩
  |false=>
   cases b with
   |true=>exact .inl ⟨(by first|simp only [Pck,h1,h2,if_true,if_false,qap,Bool.not_true,Bool.not_false,reduceCtorEq,not_false_eq_true,not_true_eq_false]|simp only [Pck,h1,if_true,if_false,qap,Bool.not_true,Bool.not_false,reduceCtorEq,not_false_eq_true,not_true_eq_false]|simp only [Pck,if_true,if_false,qap,Bool.not_true,Bool.not_false,reduceCtorEq,not_false_eq_true,not_true_eq_false]),⟨[(4,num 7)],[.var [.bs 3 0 k,nat v],.dead,.var (slotC k0 i0 s0 t0 l0 f0 n0 d0 items vals),.row 10 (msgsC acc),.dead]⟩,.b _ _ _ _ _ _ (by decide),fun M hM=>run_of [(24,.b true),(25,.e (Msg.mk ⟨a1,a2⟩ a3 a4 (Val.mk a5 a6 a7 a8 a9 a0)).cells),(32,.b false),(34,.p (num c)),(36,.b false),(43,.d [.sl false 10 (msgsC acc),.fn 235 [.dp (Msg.mk ⟨a1,a2⟩ a3 a4 (Val.mk a5 a6 a7 a8 a9 a0)).cells]] (boolX true))] [] (pf6 hlt hg h1 (hc M (by omega)) h2 (⟨(data_row acc k 3 (.fn 235 [.dp (Msg.mk ⟨a1,a2⟩ a3 a4 (Val.mk a5 a6 a7 a8 a9 a0)).cells]) [.var [.bs 3 0 k,nat v],.dead,.var (slotC k0 i0 s0 t0 l0 f0 n0 d0 items vals),.row 10 (msgsC acc),.dead] rfl hk (by kernel_rfl)),hb M (by omega)⟩:_/\_)) (lo':=[]) (by kernel_rfl)⟩
   |false=>exact .inr ⟨(by first|simp only [Pck,h1,h2,if_true,if_false,qap,Bool.not_true,Bool.not_false,reduceCtorEq,not_false_eq_true,not_true_eq_false]|simp only [Pck,h1,if_true,if_false,qap,Bool.not_true,Bool.not_false,reduceCtorEq,not_false_eq_true,not_true_eq_false]|simp only [Pck,if_true,if_false,qap,Bool.not_true,Bool.not_false,reduceCtorEq,not_false_eq_true,not_true_eq_false]),⟨[(0,.ptr 0 0 0),(3,.ptr 2 0 0),(21,.sl false 10 items),(22,nat n),(23,nat (j+1))],[.var [.bs 5 0 (k+1),nat v],.dead,.var (slotC k0 i0 s0 t0 l0 f0 n0 d0 items vals),.dead,.dead,.row 10 (msgsC acc++[(Msg.mk ⟨a1,a2⟩ a3 a4 (Val.mk a5 a6 a7 a8 a9 a0)).cells])]⟩,by kernel_rfl,fun M hM=>run_of [(24,.b true),(25,.e (Msg.mk ⟨a1,a2⟩ a3 a4 (Val.mk a5 a6 a7 a8 a9 a0)).cells),(32,.b false),(34,.p (num c)),(36,.b false),(43,.d [.sl false 10 (msgsC acc),.fn 235 [.dp (Msg.mk ⟨a1,a2⟩ a3 a4 (Val.mk a5 a6 a7 a8 a9 a0)).cells]] (boolX false)),(51,.app),(54,.i (Int.ofNat (j+1)))] [] (pf8 hlt hg h1 (hc M (by omega)) h2 (⟨(data_row acc k 3 (.fn 235 [.dp (Msg.mk ⟨a1,a2⟩ a3 a4 (Val.mk a5 a6 a7 a8 a9 a0)).cells]) [.var [.bs 3 0 k,nat v],.dead,.var (slotC k0 i0 s0 t0 l0 f0 n0 d0 items vals),.row 10 (msgsC acc),.dead] rfl hk (by kernel_rfl)),hb M (by omega)⟩:_/\_) (app_ok (acc:=msgsC acc) k 3 152 (by omega) (by omega) (by omega)) (next_nat (j:=j) (by omega))) (lo':=[]) (by kernel_rfl)⟩
theorem xk_items (k0 i0 s0:Int)(t0:qaW)(l0 f0:qaV)(n0 d0:Int)(items:List Msg)(vals:qaV)(k v:Nat)(acc:List Msg)(hit:∀m,m∈items->m.ok)(hacc:∀o,o∈acc->o.ok)(hk:k=acc.length)(hl:acc.length+items.length<=60000):
  (¬(∀j (h:j<items.length),Pck (k+j) (chkM items[j]) (hasSt (acc++items.take j) items[j])=true)/\∃r,BadCk r/\∀M,120040<=M->run (callF tab ext M) 2 M (.loop (loopAt 160 0)) (ckH false (msgsC items) (msgsC items).length 0 k v (msgsC acc) (slotC k0 i0 s0 t0 l0 f0 n0 d0 (msgsC items) vals))=some (.ret,r))\/
  ((∀j (h:j<items.length),Pck (k+j) (chkM items[j]) (hasSt (acc++items.take j) items[j])=true)/\∀M,120040<=M->run (callF tab ext M) 2 M (.loop (loopAt 160 0)) (ckH false (msgsC items) (msgsC items).length 0 k v (msgsC acc) (slotC k0 i0 s0 t0 l0 f0 n0 d0 (msgsC items) vals))=some (.exit 0,⟨[(0,.ptr 0 0 0),(3,.ptr 2 0 0),(21,.sl false 10 (msgsC items)),(22,nat (msgsC items).length),(23,nat (msgsC items).length),(24,boolX false)],ckB (decide (0<items.length)) (k+items.length) v (msgsC (acc++items)) (slotC k0 i0 s0 t0 l0 f0 n0 d0 (msgsC items) vals)⟩)):=by
 have hn:=msgsC_length items;have hap:∀j (h:j<items.length),msgsC (acc++items.take j)++[items[j].cells]=msgsC (acc++items.take (j+1)):=fun j h=>by rw [qaP h,<-qau];simp only [msgsC,List.map_append,qaO,List.map_nil]
 have:=scanX (P:=fun j=>∀h:j<items.length,Pck (k+j) (chkM items[j]) (hasSt (acc++items.take j) items[j])=true) (nIn:=2) (B:=120040) (b:=loopAt 160 0) (H:=fun j=>ckH (decide (0<j)) (msgsC items) (msgsC items).length j (k+j) v (msgsC (acc++items.take j)) (slotC k0 i0 s0 t0 l0 f0 n0 d0 (msgsC items) vals))
  (τ:=ckH false (msgsC items) (msgsC items).length 0 k v (msgsC acc) (slotC k0 i0 s0 t0 l0 f0 n0 d0 (msgsC items) vals)) (n:=items.length) (e:=.exit 0) (fin:=⟨[(0,.ptr 0 0 0),(3,.ptr 2 0 0),(21,.sl false 10 (msgsC items)),(22,nat (msgsC items).length),(23,nat (msgsC items).length),(24,boolX false)],ckB (decide (0<items.length)) (k+items.length) v (msgsC (acc++items)) (slotC k0 i0 s0 t0 l0 f0 n0 d0 (msgsC items) vals)⟩) BadCk (by rw [List.take_zero,List.append_nil];kernel_rfl) (fun j hj=>by
   have hg:=msgsC_get hj;have hm:=hit _ (qal hj);have hacc':∀o,o∈acc++items.take j->o.ok:=fun o ho=>by
    rcases qaB.1 ho with h|h;·exact hacc o h
    exact hit o (List.mem_of_mem_take h)
   have hlen:k+j=(acc++items.take j).length:=by rw [qae,qac];omega
   have e1:decide (0<j+1)=true:=by simp
   have hPj:(∀h:j<items.length,Pck (k+j) (chkM items[j]) (hasSt (acc++items.take j) items[j])=true)↔Pck (k+j) (chkM items[j]) (hasSt (acc++items.take j) items[j])=true:=⟨fun h=>h hj,fun h _=>h⟩;rw [hPj,<-hap j hj,e1,show k+(j+1)=k+j+1 from rfl];cases j with
   |zero=>exact xk_round_false _ _ _ _ _ _ _ _ _ _ _ _ _ _ _ _ hm hacc' hlen (by omega) (by omega) (by omega) hg
   |succ j=>exact xk_round_true _ _ _ _ _ _ _ _ _ _ _ _ _ _ _ _ hm hacc' hlen (by omega) (by omega) (by omega) hg)
  (fun M _=>by have:=ck_end k0 i0 s0 t0 l0 f0 n0 d0 (msgsC items) vals items.length (k+items.length) v (msgsC (acc++items)) (decide (0<items.length)) M;rw [List.take_length,hn];exact this) (by simp)
 rcases this with ⟨hP,r,hr,h⟩|⟨hP,h⟩;·exact .inl ⟨fun hh=>hP fun j hj=>hh j,r,hr,fun M hM=>h M hM (by omega)⟩
 exact .inr ⟨fun j hj=>hP j hj hj,fun M hM=>h M hM (by omega)⟩
theorem yv_round_false (vals:qaV)(n j k v:Nat)(acc:qaV)(x:Val)(hx:x.ok)(hj:j<n)(hn:n<=60000)(hv:v<=1000000)(hg:vals[j]?=some x.cells):
  (¬Pcv v (chkV x)=true/\∃r,BadCk r/\∀M,120040<=M->run (callF tab ext M) 2 M (loopAt 160 1) (cvSt false vals n j k v acc)=some (.ret,r))\/
  (Pcv v (chkV x)=true/\∃υ,canon 2 υ=some (cvSt false vals n (j+1) k (v+1) acc)/\∀M,120040<=M->run (callF tab ext M) 2 M (loopAt 160 1) (cvSt false vals n j k v acc)=some (.norm,υ)):=by
 have hok:=hx;unfold Val.ok at hok;have hc:∀M,120040<=M->_:=fun M hM=>chkV_at hx M (by omega);generalize chkV x=c at hc ⊢;have hlt:=lt_nat hj;obtain ⟨a1,a2,a3,a4,a5,a6⟩:=x;cases h1:(Int.ofNat v==4096) with
 |true=>exact .inl ⟨(by first|simp only [Pcv,h1,h2,if_true,if_false,qap,Bool.not_true,Bool.not_false,reduceCtorEq,not_false_eq_true,not_true_eq_false]|simp only [Pcv,h1,if_true,qap,not_false_eq_true]|simp only [Pcv,if_true,if_false,qap,Bool.not_true,Bool.not_false,reduceCtorEq,not_false_eq_true,not_true_eq_false]),⟨[(4,num 9)],[.var [.bs 1 0 k,nat v],.row 10 acc,.var (Val.mk a1 a2 a3 a4 a5 a6).cells]⟩,.c _ _ _ _ _ (by decide),fun M hM=>run_of [(59,.b true),(60,.e (Val.mk a1 a2 a3 a4 a5 a6).cells),(66,.b true)] [] (pf3 hlt hg h1) (lo':=[]) (by kernel_rfl)⟩
 |false=>
  cases h2:(!(c==0)) with
  |true=>exact .inl ⟨(by first|simp only [Pcv,h1,h2,if_true,if_false,qap,not_false_eq_true]|simp only [Pcv,h1,if_true,if_false,qap,Bool.not_true,Bool.not_false,reduceCtorEq,not_false_eq_true,not_true_eq_false]|simp only [Pcv,if_true,if_false,qap,Bool.not_true,Bool.not_false,reduceCtorEq,not_false_eq_true,not_true_eq_false]),⟨[(4,num c)],[.var [.bs 1 0 k,nat v],.row 10 acc,.var (Val.mk a1 a2 a3 a4 a5 a6).cells]⟩,.c _ _ _ _ _ (by intro h0;rw [h0] at h2;cases h2),fun M hM=>run_of [(59,.b true),(60,.e (Val.mk a1 a2 a3 a4 a5 a6).cells),(66,.b false),(68,.p (num c)),(70,.b true)] [] (pf5 hlt hg h1 (hc M hM) h2) (lo':=[]) (by kernel_rfl)⟩
  |false=>exact .inr ⟨(by first|simp only [Pcv,h1,h2,if_false,qap,not_true_eq_false]|simp only [Pcv,h1,if_true,if_false,qap,Bool.not_true,Bool.not_false,reduceCtorEq,not_false_eq_true,not_true_eq_false]|simp only [Pcv,if_true,if_false,qap,Bool.not_true,Bool.not_false,reduceCtorEq,not_false_eq_true,not_true_eq_false]),⟨[(0,.ptr 0 0 0),(56,.sl false 6 vals),(57,nat n),(58,nat (j+1))],[.var [.bs 1 0 k,nat (v+1)],.row 10 acc,.var (Val.mk a1 a2 a3 a4 a5 a6).cells]⟩,by kernel_rfl,fun M hM=>run_of [(59,.b true),(60,.e (Val.mk a1 a2 a3 a4 a5 a6).cells),(66,.b false),(68,.p (num c)),(70,.b false),(76,.i (Int.ofNat (v+1))),(79,.i (Int.ofNat (j+1)))] [] (pf7 hlt hg h1 (hc M hM) h2 (next_nat (j:=v) (by omega)) (next_nat (j:=j) (by omega))) (lo':=[]) (by kernel_rfl)⟩
theorem yv_round_true (vals:qaV)(n j k v:Nat)(acc:qaV)(x:Val)(hx:x.ok)(hj:j<n)(hn:n<=60000)(hv:v<=1000000)(hg:vals[j]?=some x.cells):
  (¬Pcv v (chkV x)=true/\∃r,BadCk r/\∀M,120040<=M->run (callF tab ext M) 2 M (loopAt 160 1) (cvSt true vals n j k v acc)=some (.ret,r))\/
  (Pcv v (chkV x)=true/\∃υ,canon 2 υ=some (cvSt true vals n (j+1) k (v+1) acc)/\∀M,120040<=M->run (callF tab ext M) 2 M (loopAt 160 1) (cvSt true vals n j k v acc)=some (.norm,υ)):=by
 have hok:=hx;unfold Val.ok at hok;have hc:∀M,120040<=M->_:=fun M hM=>chkV_at hx M (by omega);generalize chkV x=c at hc ⊢;have hlt:=lt_nat hj;obtain ⟨a1,a2,a3,a4,a5,a6⟩:=x;cases h1:(Int.ofNat v==4096) with
 |true=>exact .inl ⟨(by first|simp only [Pcv,h1,h2,if_true,if_false,qap,Bool.not_true,Bool.not_false,reduceCtorEq,not_false_eq_true,not_true_eq_false]|simp only [Pcv,h1,if_true,qap,not_false_eq_true]|simp only [Pcv,if_true,if_false,qap,Bool.not_true,Bool.not_false,reduceCtorEq,not_false_eq_true,not_true_eq_false]),⟨[(4,num 9)],[.var [.bs 2 0 k,nat v],.dead,.row 10 acc,.var (Val.mk a1 a2 a3 a4 a5 a6).cells]⟩,.d _ _ _ _ _ (by decide),fun M hM=>run_of [(59,.b true),(60,.e (Val.mk a1 a2 a3 a4 a5 a6).cells),(66,.b true)] [] (pf3 hlt hg h1) (lo':=[]) (by kernel_rfl)⟩
 |false=>
  cases h2:(!(c==0)) with
  |true=>exact .inl ⟨(by first|simp only [Pcv,h1,h2,if_true,if_false,qap,not_false_eq_true]|simp only [Pcv,h1,if_true,if_false,qap,Bool.not_true,Bool.not_false,reduceCtorEq,not_false_eq_true,not_true_eq_false]|simp only [Pcv,if_true,if_false,qap,Bool.not_true,Bool.not_false,reduceCtorEq,not_false_eq_true,not_true_eq_false]),⟨[(4,num c)],[.var [.bs 2 0 k,nat v],.dead,.row 10 acc,.var (Val.mk a1 a2 a3 a4 a5 a6).cells]⟩,.d _ _ _ _ _ (by intro h0;rw [h0] at h2;cases h2),fun M hM=>run_of [(59,.b true),(60,.e (Val.mk a1 a2 a3 a4 a5 a6).cells),(66,.b false),(68,.p (num c)),(70,.b true)] [] (pf5 hlt hg h1 (hc M hM) h2) (lo':=[]) (by kernel_rfl)⟩
  |false=>exact .inr ⟨(by first|simp only [Pcv,h1,h2,if_false,qap,not_true_eq_false]|simp only [Pcv,h1,if_true,if_false,qap,Bool.not_true,Bool.not_false,reduceCtorEq,not_false_eq_true,not_true_eq_false]|simp only [Pcv,if_true,if_false,qap,Bool.not_true,Bool.not_false,reduceCtorEq,not_false_eq_true,not_true_eq_false]),⟨[(0,.ptr 0 0 0),(56,.sl false 6 vals),(57,nat n),(58,nat (j+1))],[.var [.bs 2 0 k,nat (v+1)],.dead,.row 10 acc,.var (Val.mk a1 a2 a3 a4 a5 a6).cells]⟩,by kernel_rfl,fun M hM=>run_of [(59,.b true),(60,.e (Val.mk a1 a2 a3 a4 a5 a6).cells),(66,.b false),(68,.p (num c)),(70,.b false),(76,.i (Int.ofNat (v+1))),(79,.i (Int.ofNat (j+1)))] [] (pf7 hlt hg h1 (hc M hM) h2 (next_nat (j:=v) (by omega)) (next_nat (j:=j) (by omega))) (lo':=[]) (by kernel_rfl)⟩
theorem yv_loop (vs:List Val)(k v:Nat)(acc:qaV)(f:Bool)(hok:∀x,x∈vs->x.ok)(hl:vs.length<=60000)(hv:v<=900000)(hτ:canon 2 τ=some (cvSt f (cellsL vs) (cellsL vs).length 0 k v acc)):
  (¬(∀j (h:j<vs.length),Pcv (v+j) (chkV vs[j])=true)/\∃r,BadCk r/\∀M,120040<=M->run (callF tab ext M) 2 M (.loop (loopAt 160 1)) τ=some (.ret,r))\/
  ((∀j (h:j<vs.length),Pcv (v+j) (chkV vs[j])=true)/\∀M,120040<=M->run (callF tab ext M) 2 M (.loop (loopAt 160 1)) τ=some (.exit 2,cvFin f (cellsL vs) (cellsL vs).length (cellsL vs).length k (v+(cellsL vs).length) acc)):=by
 have hn:=cellsL_length vs;have:=scanX (P:=fun j=>∀h:j<vs.length,Pcv (v+j) (chkV vs[j])=true) (nIn:=2) (B:=120040) (b:=loopAt 160 1) (H:=fun j=>cvSt f (cellsL vs) (cellsL vs).length j k (v+j) acc) (τ:=τ) (n:=(cellsL vs).length) (e:=.exit 2) (fin:=cvFin f (cellsL vs) (cellsL vs).length (cellsL vs).length k (v+(cellsL vs).length) acc) BadCk hτ (fun j hj=>by
   have hj':j<vs.length:=by omega
   have hg:=cellsL_get hj';have hx:=hok _ (qal hj');have hPj:(∀h:j<vs.length,Pcv (v+j) (chkV vs[j])=true)↔Pcv (v+j) (chkV vs[j])=true:=⟨fun h=>h hj',fun h _=>h⟩;rw [hPj,show v+(j+1)=v+j+1 from rfl];cases f with
   |false=>exact yv_round_false _ _ _ _ _ _ _ hx hj (by omega) (by omega) hg
   |true=>exact yv_round_true _ _ _ _ _ _ _ hx hj (by omega) (by omega) hg)
  (fun M _=>by
   cases f with
   |false=>exact run_of [(59,.b false)] [] (pf1 (nlt_nat (qar (cellsL vs).length))) (lo':=[]) (by kernel_rfl)
   |true=>exact run_of [(59,.b false)] [] (pf1 (nlt_nat (qar (cellsL vs).length))) (lo':=[]) (by kernel_rfl)) (by simp)
 rcases this with ⟨hP,r,hr,h⟩|⟨hP,h⟩;·exact .inl ⟨fun hh=>hP fun j hj=>hh j,r,hr,fun M hM=>h M hM (by omega)⟩
 exact .inr ⟨fun j hj=>hP j (by omega) hj,fun M hM=>h M hM (by omega)⟩
end Go.Proofs.YtonnphbfclaigaaGreatDoor
