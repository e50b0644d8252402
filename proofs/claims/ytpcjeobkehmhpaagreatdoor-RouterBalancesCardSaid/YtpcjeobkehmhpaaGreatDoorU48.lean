/-.-/
import Derived.Test.YtpcjeobkehmhpaaGreatDoorU42
import Derived.Test.YtpcjeobkehmhpaaGreatDoorU44
set_option linter.all false
namespace Go.Proofs.YtpcjeobkehmhpaaGreatDoor
open Go Go.Em Go.Ab
set_option maxRecDepth 100000
variable {bs:List Val}
namespace Ct
abbrev zds (name:qaZ) (kd k1 k2 k3 w k5:Int) (text:qaZ) (a b c d:Int) (we el f ty ex ru ca ne:qaY):List X:=[aC name,num kd,num k1,num k2,num k3,num w,num k5,aC text,num a,num b,num c,num d,.sl false 1 we,.sl false 7 el,.sl false 11 f,.sl false 7 ty,.sl false 5 ex,.sl false 6 ru,.sl false 2 ca,.sl false 1 ne]
def zc6 (f:Nat->Bool×Int)(j:Nat):Res:=if (f j).2 !=0 then .rej (kZ (f j).2) else .pas j
def Pq (f:Nat->Bool×Int)(j:Nat):Bool:=(f j).2 !=0||(f j).1
section
variable (name:qaZ) (kd k1 k2 k3 w k5:Int) (text:qaZ) (a b c d:Int) (we el f ty ex ru ca ne:qaY) (m:Msg) (nx j:Nat)
noncomputable abbrev chH:St:=⟨[(2,.ptr 0 0 0),(3,.ptr 1 0 0),(4,.ptr 2 0 0),(10,nat nx),(11,nat j)],[.var (zds name kd k1 k2 k3 w k5 text a b c d we el f ty ex ru ca ne),.var m.cells,.var [.sl true 10 [],num 0,ak false,bD]]⟩
noncomputable abbrev chR (q:Res):St:=⟨[(4,.ptr 2 0 0)],[.var (zds name kd k1 k2 k3 w k5 text a b c d we el f ty ex ru ca ne),.var m.cells,.var (q.cells m)]⟩
noncomputable abbrev chE:St:=⟨[(2,.ptr 0 0 0),(3,.ptr 1 0 0),(4,.ptr 2 0 0),(10,nat nx),(11,nat j),(12,ak false)],[.var (zds name kd k1 k2 k3 w k5 text a b c d we el f ty ex ru ca ne),.var m.cells,.var [.sl true 10 [],num 0,ak false,bD]]⟩
variable (g:Bool) (er:Int) (r:qaZ) (M:Nat)
theorem TN:canon 0 (chH name kd k1 k2 k3 w k5 text a b c d we el f ty ex ru ca ne m nx j)=some (chH name kd k1 k2 k3 w k5 text a b c d we el f ty ex ru ca ne m nx j):=by obtain ⟨⟨A,F⟩,B,E,⟨h,l,n,q,u,y⟩⟩:=m;kernel_rfl
theorem znY (h1:decide (Int.ofNat j<Int.ofNat nx)=true)(Ky:Gam.aF (ah tab ext M) 73 [.agg (zds name kd k1 k2 k3 w k5 text a b c d we el f ty ex ru ca ne),nat j,.agg m.cells]=some (.tup [ak g,num er]))(h2:(er !=0)=true)(V3:Gam.aF (ah tab ext M) 36 [num er]=some (aC r))(zbY:Gam.aF (ah tab ext M) 52 [aC r]=some (.agg [.sl false 10 [],num 0,ak false,aC r])):
  run (ah tab ext M) 0 M (aH 49 0) (chH name kd k1 k2 k3 w k5 text a b c d we el f ty ex ru ca ne m nx j)=some (.ret,chR name kd k1 k2 k3 w k5 text a b c d we el f ty ex ru ca ne m (.rej r)):=by
 obtain ⟨⟨A,F⟩,B,E,⟨h,l,n,q,u,y⟩⟩:=m;cases g with
 |true=>exact ruA [(12,.b true),(18,.p (.tup [ak true,num er])),(22,.b true),(24,.p (aC r)),(25,.p (.agg [.sl false 10 [],num 0,ak false,aC r]))] (pf5 h1 Ky h2 V3 zbY)
 |false=>exact ruA [(12,.b true),(18,.p (.tup [ak false,num er])),(22,.b true),(24,.p (aC r)),(25,.p (.agg [.sl false 10 [],num 0,ak false,aC r]))] (pf5 h1 Ky h2 V3 zbY)
theorem znZ (h1:decide (Int.ofNat j<Int.ofNat nx)=true)(Ky:Gam.aF (ah tab ext M) 73 [.agg (zds name kd k1 k2 k3 w k5 text a b c d we el f ty ex ru ca ne),nat j,.agg m.cells]=some (.tup [ak true,num er]))(h2:(er !=0)=false)(zlQ:Gam.aF (ah tab ext M) 74 [.agg m.cells,nat j]=some (.agg [.sl false 10 [m.cells],nat j,ak false,bD])):
  run (ah tab ext M) 0 M (aH 49 0) (chH name kd k1 k2 k3 w k5 text a b c d we el f ty ex ru ca ne m nx j)=some (.ret,chR name kd k1 k2 k3 w k5 text a b c d we el f ty ex ru ca ne m (.pas j)):=by
 obtain ⟨⟨A,F⟩,B,E,⟨h,l,n,q,u,y⟩⟩:=m;exact ruA [(12,.b true),(18,.p (.tup [ak true,num er])),(22,.b false),(29,.p (.agg [.sl false 10 [(Msg.mk ⟨A,F⟩ B E (.mk h l n q u y)).cells],nat j,ak false,bD]))] (pf4 h1 Ky h2 zlQ)
theorem zkw (h1:decide (Int.ofNat j<Int.ofNat nx)=true)(Ky:Gam.aF (ah tab ext M) 73 [.agg (zds name kd k1 k2 k3 w k5 text a b c d we el f ty ex ru ca ne),nat j,.agg m.cells]=some (.tup [ak false,num er]))(h2:(er !=0)=false)(hn:IntKind.i64.wrap (Int.ofNat j+1)=Int.ofNat (j+1)):
  run (ah tab ext M) 0 M (aH 49 0) (chH name kd k1 k2 k3 w k5 text a b c d we el f ty ex ru ca ne m nx j)=some (.norm,chH name kd k1 k2 k3 w k5 text a b c d we el f ty ex ru ca ne m nx (j+1)):=by
 obtain ⟨⟨A,F⟩,B,E,⟨h,l,n,q,u,y⟩⟩:=m;exact ruA [(12,.b true),(18,.p (.tup [ak false,num er])),(22,.b false),(30,.i (Int.ofNat (j+1)))] (pf4 h1 Ky h2 hn)
theorem zn2 (h1:decide (Int.ofNat j<Int.ofNat nx)=false):run (ah tab ext M) 0 M (aH 49 0) (chH name kd k1 k2 k3 w k5 text a b c d we el f ty ex ru ca ne m nx j)=some (.exit 0,chE name kd k1 k2 k3 w k5 text a b c d we el f ty ex ru ca ne m nx j):=by obtain ⟨⟨A,F⟩,B,E,⟨h,l,n,q,u,y⟩⟩:=m;exact ruA [(12,.b false)] (pf1 h1)
theorem zn1 (q:Res)(h:run (ah tab ext M) 0 M (.loop (aH 49 0)) (chH name kd k1 k2 k3 w k5 text a b c d we el f ty ex ru ca ne m ex.length 0)=some (.ret,chR name kd k1 k2 k3 w k5 text a b c d we el f ty ex ru ca ne m q)):Gam.aF (ah tab ext (M+1)) 49 [.agg (zds name kd k1 k2 k3 w k5 text a b c d we el f ty ex ru ca ne),.agg m.cells]=some (.agg (q.cells m)):=by
 obtain ⟨⟨E,J⟩,F,H,⟨l,n,u,y,A,B⟩⟩:=m;cases q with
 |rej r=>exact puB [] [(.ret,chR name kd k1 k2 k3 w k5 text a b c d we el f ty ex ru ca ne (Msg.mk ⟨E,J⟩ F H (.mk l n u y A B)) (.rej r))] (pf1 h) (.agg [.sl false 10 [],num 0,ak false,aC r])
 |pas j=>exact puB [] [(.ret,chR name kd k1 k2 k3 w k5 text a b c d we el f ty ex ru ca ne (Msg.mk ⟨E,J⟩ F H (.mk l n u y A B)) (.pas j))] (pf1 h) (.agg [.sl false 10 [(Msg.mk ⟨E,J⟩ F H (.mk l n u y A B)).cells],nat j,ak false,bD])
theorem zn0 (h:run (ah tab ext M) 0 M (.loop (aH 49 0)) (chH name kd k1 k2 k3 w k5 text a b c d we el f ty ex ru ca ne m ex.length 0)=some (.exit 0,chE name kd k1 k2 k3 w k5 text a b c d we el f ty ex ru ca ne m ex.length ex.length))(ztu:Gam.aF (ah tab ext M) 20 [.agg (zds name kd k1 k2 k3 w k5 text a b c d we el f ty ex ru ca ne),.agg m.cells]=some (.agg [.sl false 10 [],num 0,ak false,aC r])):Gam.aF (ah tab ext (M+1)) 49 [.agg (zds name kd k1 k2 k3 w k5 text a b c d we el f ty ex ru ca ne),.agg m.cells]=some (.agg (Res.cells m (.rej r))):=by obtain ⟨⟨A,F⟩,B,E,⟨j,l,n,q,u,y⟩⟩:=m;exact puB [(33,.p (.agg [.sl false 10 [],num 0,ak false,aC r]))] [(.exit 0,chE name kd k1 k2 k3 w k5 text a b c d we el f ty ex ru ca ne (Msg.mk ⟨A,F⟩ B E (.mk j l n q u y)) ex.length ex.length)] (pf2 h ztu) (.agg [.sl false 10 [],num 0,ak false,aC r])
end
def zsE:qaZ:=⟨#[117,110,114,111,117,116,97,98,108,101]⟩
def Choice (f:Nat->Bool×Int)(n:Nat)(q:Res):Prop:=(∃j,j<n/\Pq f j=true/\(∀i,i<j->Pq f i=false)/\q=zc6 f j)\/((∀j,j<n->Pq f j=false)/\q=.rej zsE)
theorem ZU {f:Nat->Bool×Int}{j:Nat}(h:Pq f j=false):((f j).2 !=0)=false/\(f j).1=false:=by grind[Pq]
theorem QM (nd:Nod)(hs:nd.small)(m:Msg)(hm:m.body.ok)(f:Nat->Bool×Int)(B:Nat)(hc:zoC nd m.body f B nd.exprs.length):∃q,Choice f nd.exprs.length q/\∀N,B+200600<=N->Gam.aF (ah tab ext N) 49 [.agg nd.cells,.agg m.cells]=some (.agg (q.cells m)):=by
 have hl:=hs.2.2.2.1;have Ky:∀j,j<nd.exprs.length->∀N,B+200501<=N->Gam.aF (ah tab ext N) 73 [.agg nd.cells,nat j,.agg m.cells]=some (.tup [ak (f j).1,num (f j).2]):=fun j y N hN=>by obtain ⟨M,rfl⟩:∃M,N=M+1:=⟨N-1,by omega⟩;exact zmN nd hs j m hm _ _ M (by omega) ((hc j y).2 M (by omega))
 have hr:=fun j (y:j<nd.exprs.length)=>(hc j y).1;have pa:=fun N=>KR N nd m;clear hc hm hs;obtain ⟨l,Y,S,U,V,w,W,u,⟨a,b,c,d⟩,we,el,O,ty,A,L,ru,Z⟩:=nd;dsimp only at Ky hr hl ⊢;have pb:=zmz (nIn:=0) (b:=aH 49 0) (H:=fun j=>chH l Y S U V w W u a b c d we el O ty A ru L Z m A.length j) (P:=Pq f) (r:=fun j=>chR l Y S U V w W u a b c d we el O ty A ru L Z m (zc6 f j)) (υ:=fun j=>chH l Y S U V w W u a b c d we el O ty A ru L Z m A.length (j+1)) (τ:=chH l Y S U V w W u a b c d we el O ty A ru L Z m A.length 0) (n:=A.length) (B:=B+200510) (e:=.exit 0) (fin:=chE l Y S U V w W u a b c d we el O ty A ru L Z m A.length A.length) (TN ..)
  (fun j y E M hM=>by
   have J:=Ky j y M (by omega);have hb:=hr j y;unfold Pq at E;unfold zc6;generalize f j=p at J hb E ⊢;obtain ⟨g,er⟩:=p;obtain ⟨K,rfl⟩:∃K,M=K+10:=⟨M-10,by omega⟩;cases F:(er !=0) with
   |true=>exact znY (h1:=aN y) (Ky:=J) (h2:=F) (V3:=pF er hb (K+10) (by omega)) (zbY:=vK (K+9) _) ..
   |false=>
    have Q:g=true:=by dsimp only at E;rw [F] at E;simpa using E
    subst Q;exact znZ (h1:=aN y) (Ky:=J) (h2:=F) (zlQ:=BH (K+9) m j) ..)
  (fun j y E=>⟨TN ..,fun M hM=>by have J:=Ky j y M (by omega);obtain ⟨F,Q⟩:=ZU E;generalize f j=p at J F Q;obtain ⟨g,er⟩:=p;dsimp only at F Q;subst Q;exact zkw (h1:=aN y) (Ky:=J) (h2:=F) (hn:=aB (j:=j) (by omega)) ..⟩)
  (fun M _=>zn2 (h1:=aO (qaC _)) ..) (by simp)
 rcases pb with ⟨j,y,E,hB,h⟩|⟨hF,h⟩;·refine ⟨zc6 f j,.inl ⟨j,y,E,hB,rfl⟩,fun N hN=>?_⟩;obtain ⟨M,rfl⟩:∃M,N=M+1:=⟨N-1,by omega⟩;exact zn1 (h:=h M (by omega) (by omega)) ..
 refine ⟨.rej zsE,.inr ⟨hF,rfl⟩,fun N hN=>?_⟩;obtain ⟨M,rfl⟩:∃M,N=M+2+1:=⟨N-3,by omega⟩;exact zn0 (h:=h (M+2) (by omega) (by omega)) (ztu:=pa M) ..
section
variable (name:qaZ) (k1 k2 k3 w k5:Int) (text:qaZ) (a b c d:Int) (we el f ty ex ru ca ne:qaY) (s:Stt) (m:Msg) (v:Val) (j:Nat)
variable (g:Bool) (er:Int) (r:qaZ) (M:Nat)
variable (i:Inp)
end
end Ct
open Go.Em
theorem YJ (N:Nat)(v:Val)(n:Nat)(h1:1<=n)(h2:n<=16):Gam.aF (ah tab ext (N+500)) 77 [.agg v.cells,nat n]=some (.sl false 6 (List.replicate n v.cells)):=by
 obtain ⟨k,i,s,t,l,f⟩:=v;have h:n=1\/n=2\/n=3\/n=4\/n=5\/n=6\/n=7\/n=8\/n=9\/n=10\/n=11\/n=12\/n=13\/n=14\/n=15\/n=16:=by omega
 rcases h with rfl|rfl|rfl|rfl|rfl|rfl|rfl|rfl|rfl|rfl|rfl|rfl|rfl|rfl|rfl|rfl
 all_goals (show _=_;kernel_rfl)
theorem YI (N:Nat)(v:Val)(n:Nat)(h1:17<=n)(h2:n<=32):Gam.aF (ah tab ext (N+500)) 77 [.agg v.cells,nat n]=some (.sl false 6 (List.replicate n v.cells)):=by
 obtain ⟨k,i,s,t,l,f⟩:=v;have h:n=17\/n=18\/n=19\/n=20\/n=21\/n=22\/n=23\/n=24\/n=25\/n=26\/n=27\/n=28\/n=29\/n=30\/n=31\/n=32:=by omega
 rcases h with rfl|rfl|rfl|rfl|rfl|rfl|rfl|rfl|rfl|rfl|rfl|rfl|rfl|rfl|rfl|rfl
 all_goals (show _=_;kernel_rfl)
theorem YH (N:Nat)(v:Val)(n:Nat)(h1:33<=n)(h2:n<=48):Gam.aF (ah tab ext (N+500)) 77 [.agg v.cells,nat n]=some (.sl false 6 (List.replicate n v.cells)):=by
 obtain ⟨k,i,s,t,l,f⟩:=v;have h:n=33\/n=34\/n=35\/n=36\/n=37\/n=38\/n=39\/n=40\/n=41\/n=42\/n=43\/n=44\/n=45\/n=46\/n=47\/n=48:=by omega
 rcases h with rfl|rfl|rfl|rfl|rfl|rfl|rfl|rfl|rfl|rfl|rfl|rfl|rfl|rfl|rfl|rfl
 all_goals (show _=_;kernel_rfl)
theorem YG (N:Nat)(v:Val)(n:Nat)(h1:49<=n)(h2:n<=64):Gam.aF (ah tab ext (N+500)) 77 [.agg v.cells,nat n]=some (.sl false 6 (List.replicate n v.cells)):=by
 obtain ⟨k,i,s,t,l,f⟩:=v;have h:n=49\/n=50\/n=51\/n=52\/n=53\/n=54\/n=55\/n=56\/n=57\/n=58\/n=59\/n=60\/n=61\/n=62\/n=63\/n=64:=by omega
 rcases h with rfl|rfl|rfl|rfl|rfl|rfl|rfl|rfl|rfl|rfl|rfl|rfl|rfl|rfl|rfl|rfl
 all_goals (show _=_;kernel_rfl)
theorem zc7 (v:Val)(n:Nat)(h1:1<=n)(h2:n<=64)(N:Nat)(hN:500<=N):Gam.aF (ah tab ext N) 77 [.agg v.cells,nat n]=some (.sl false 6 (List.replicate n v.cells)):=by
 obtain ⟨M,rfl⟩:∃M,N=M+500:=⟨N-500,by omega⟩
 grind[YJ,YI,YH,YG]
theorem Xv (m:Msg)(hm:m.ok)(v:Val)(hv:v.ok)(N:Nat)(hN:190010<=N):Gam.aF (ah tab ext N) 75 [.agg m.cells,.agg v.cells]=some (.agg ({m with body:=v}:Msg).cells):=by obtain ⟨M,rfl⟩:∃M,N=M+1:=⟨N-1,by omega⟩;have A:=jm M m hm (by omega);have B:=jl M v (by grind[Val.ok]) (by grind[Val.ok]);obtain ⟨⟨e,p⟩,a,o,⟨h,j,n,q,u,y⟩⟩:=m;obtain ⟨k,i,s,t,l,f⟩:=v;exact puA [(6,.p (.agg (Msg.mk ⟨e,p⟩ a o (.mk h j n q u y)).cells)),(8,.p (.agg (Val.mk k i s t l f).cells))] (pf2 A B) (.agg (Msg.mk ⟨e,p⟩ a o (.mk k i s t l f)).cells)
theorem VH (p:List Int)(k:Int):aI p++[[num k]]=aI (p++[k]):=by
 induction p with
 |nil=>rfl
 |cons a r ih=>exact congrArg (([num a])::·) ih
theorem zgz (M:Nat)(e k:Int)(l:qaY)(n:Nat)(h1:ah tab ext (M+1) (.fn 45) [.sl false 1 l] []=some (.bs 0 0 n,[.row 1 l]))(hn:n=l.length)(hb:n<1000000):Gam.aF (ah tab ext (M+2)) 106 [.agg [num e,.sl false 1 l],num k]=some (X.agg [num e,.sl false 1 (l++[[num k]])]):=by refine eH [(9,.o (.bs 0 0 n) [.row 1 l]),(12,.app)] [] (pf2 h1 (fJ n 0 8 hn hb (by omega))) (x:=.agg [num e,.bs 0 0 (n+1)]) (bx:=[.row 1 (l++[[num k]])]) (by kernel_rfl) ?_;have a:rowOf [.row 1 (l++[[num k]])] 0 0 (n+1)=some (1,l++[[num k]]):=kY rfl (by rw [qau];simp [hn])<;>simp_all[num,X.data,dZ]
theorem Un (s:Stp)(hs:s.ok)(k:Int)(N:Nat)(hN:10<=N):Gam.aF (ah tab ext N) 106 [.agg s.cells,num k]=some (.agg (Stp.mk s.e (s.p++[k])).cells):=by obtain ⟨M,rfl⟩:∃M,N=M+2:=⟨N-2,by omega⟩;have h:=zgz M s.e k (aI s.p) s.p.length (NG M s.p hs.p) (bI s.p).symm (by have:=hs.p;omega);rw [VH] at h;exact h
def OD:C->List (C×C)
 |.seq a b|.cond _ a b=>OD a++OD b
 |.block _ b|.loop b=>OD b
 |.rf _ _ _ a b=>(a,b)::(OD a++OD b)
 |_=>[]
noncomputable def paA:C:=((OD (G8 tab 76)).getD 0 (.skip,.skip)).1
noncomputable def paB:C:=((OD (G8 tab 76)).getD 0 (.skip,.skip)).2
noncomputable def zhQ:Bx:=.loop .ready none [(2,.ptr 1 0 0),(3,.ptr 2 0 0),(5,.ptr 3 0 0)] [14,15] paA paB
def nN (ms:Int)(n j:Nat):Int:=if Int.ofNat j<ms.tmod (Int.ofNat n) then IntKind.i64.wrap (IntKind.i64.wrap (ms.tdiv (Int.ofNat n))+1) else IntKind.i64.wrap (ms.tdiv (Int.ofNat n))
def Md (m:Msg)(b:Val)(n j:Nat):Msg:=⟨⟨m.st.e,m.st.p++[Int.ofNat j]⟩,nN m.nC n j,m.orig,b⟩
def zbb:Val:=.mk 0 0 0 ⟨#[]⟩ [] []
def iH (m:Msg)(bs:List Val)(k:Nat):List Msg:=(List.range k).map fun j=>Md m (bs.getD j zbb) bs.length j
theorem vO (m:Msg)(bs:List Val)(k:Nat):(aP (iH m bs k)).length=k:=by grind[iH,aP]
theorem BI (m:Msg)(bs:List Val)(k:Nat):aP (iH m bs (k+1))=aP (iH m bs k)++[(Md m (bs.getD k zbb) bs.length k).cells]:=by grind[iH,aP,List.range_succ]
theorem Ou (N:Nat)(a b:Int):Gam.aF (ah tab ext (N+2)) 105 [num a,num b]=some (.fn 155 [.dp [num b],.dp [num a]]):=by kernel_rfl
section
variable (mc:List X) (vs:qaY) (j:Nat) (outs:qaY)
noncomputable def paS:List Bx:=[zhQ,.var mc,.var [.sl false 6 vs],.var [.bs 4 0 j],.row 10 outs]
noncomputable def paI:List Bx:=[zhQ,.var mc,.var [.sl false 6 vs],.var [.bs 5 0 j],.dead,.row 10 outs]
noncomputable def paO:List Bx:=[zhQ,.var mc,.var [.sl false 6 vs],.var [.bs 6 0 j],.dead,.dead,.row 10 outs]
end
theorem zdi (N:Nat)(hN:190010<=N)(m:Msg)(hm:m.ok)(b:Val)(hb:b.ok)(vs outs:qaY)(sh:Int)(j:Nat)(hv:vs[j]?=some b.cells)(hj:j<4000)(ho:j=outs.length):
  ah tab ext (N+1) .yl [.yl 0,nat j,num sh] (paS m.cells vs j outs)=some (.v (.bool true),paI m.cells vs (j+1) (outs++[(Msg.mk ⟨m.st.e,m.st.p++[Int.ofNat j]⟩ sh m.orig b).cells])):=by
 have y:=Xv m hm b hb N hN;have a:=Un m.st hm.st (Int.ofNat j) N (by omega);obtain ⟨⟨e,p⟩,A,o,⟨B,E,F,H,J,L⟩⟩:=m;obtain ⟨f,h,l,n,q,u⟩:=b;dsimp only at a ⊢;generalize p++[Int.ofNat j]=sp at a ⊢;exact yiA [(19,.e (Val.mk f h l n q u).cells),(21,.p (.agg (Msg.mk ⟨e,p⟩ A o (.mk f h l n q u)).cells)),(25,.p (.agg (Stp.mk e sp).cells)),(32,.app)] (pf4 hv y a (fJ j 4 152 ho (by omega) (by omega)))
def zlA (n:Nat)(ms:Int)(j:Nat):List (Nat×X):=[(0,.yl 0),(1,.dp [nat n]),(2,.dp [num ms]),(6,nat n),(7,nat j)]
def mX (e:Int)(p:qaY)(ms:Int)(o:qaY)(a1 a2 a3:Int)(a4:qaZ)(a5 a6:qaY):List X:=[num e,.sl false 1 p,num ms,.sl false 1 o,num a1,num a2,num a3,aC a4,.sl false 6 a5,.sl false 7 a6]
section
variable (e:Int) (p:qaY) (q:Int) (o:qaY) (a1 a2 a3:Int) (a4:qaZ) (a5 a6:qaY) (vs:qaY) (n k:Nat) (ms:Int) (j:Nat) (outs:qaY)
noncomputable def sh0:St:=⟨zlA n ms 0,paS (mX e p q o a1 a2 a3 a4 a5 a6) vs 0 []⟩
noncomputable def shH:St:=⟨zlA n ms j,paI (mX e p q o a1 a2 a3 a4 a5 a6) vs j outs⟩
noncomputable def zsH:St:=⟨zlA n ms j,paO (mX e p q o a1 a2 a3 a4 a5 a6) vs j outs⟩
theorem Yy:canon 5 (sh0 e p q o a1 a2 a3 a4 a5 a6 vs n ms)=some (sh0 e p q o a1 a2 a3 a4 a5 a6 vs n ms):=by kernel_rfl
theorem zcX:canon 5 (shH e p q o a1 a2 a3 a4 a5 a6 vs n ms j outs)=some (shH e p q o a1 a2 a3 a4 a5 a6 vs n ms j outs):=by kernel_rfl
theorem Yz:canon 5 (zsH e p q o a1 a2 a3 a4 a5 a6 vs n ms j outs)=some (shH e p q o a1 a2 a3 a4 a5 a6 vs n ms j outs):=by kernel_rfl
theorem zcW (N:Nat)(x:List X)(hk:j<k+1)(hj:j<4000)(hy:ah tab ext N .yl [.yl 0,nat j,num (nN ms (k+1) j)] (paS (mX e p q o a1 a2 a3 a4 a5 a6) vs j outs)=some (.v (.bool true),paI (mX e p q o a1 a2 a3 a4 a5 a6) vs (j+1) (outs++[x]))):
  run (ah tab ext N) 5 N (aH 155 0) (shH e p q o a1 a2 a3 a4 a5 a6 vs (k+1) ms j outs)=some (.norm,zsH e p q o a1 a2 a3 a4 a5 a6 vs (k+1) ms (j+1) (outs++[x])):=by
 unfold nN at hy;generalize outs++[x]=o1 at hy ⊢;cases h:decide (Int.ofNat j<ms.tmod (Int.ofNat (k+1))) with
 |true=>rw [if_pos (of_decide_eq_true h)] at hy;exact ruA [(8,.b true),(17,.b true),(23,.r (.v (.bool true)) (paI (mX e p q o a1 a2 a3 a4 a5 a6) vs (j+1) o1)),(25,.i (Int.ofNat (j+1)))] (pf4 (aN hk) h hy (aB (j:=j) (by omega)))
 |false=>rw [if_neg (of_decide_eq_false h)] at hy;exact ruA [(8,.b true),(17,.b false),(23,.r (.v (.bool true)) (paI (mX e p q o a1 a2 a3 a4 a5 a6) vs (j+1) o1)),(25,.i (Int.ofNat (j+1)))] (pf4 (aN hk) h hy (aB (j:=j) (by omega)))
theorem Yx (N:Nat)(x:List X)(hy:ah tab ext N .yl [.yl 0,nat 0,num (nN ms (k+1) 0)] (paS (mX e p q o a1 a2 a3 a4 a5 a6) vs 0 [])=some (.v (.bool true),paI (mX e p q o a1 a2 a3 a4 a5 a6) vs 1 [x])):
  run (ah tab ext N) 5 N (aH 155 0) (sh0 e p q o a1 a2 a3 a4 a5 a6 vs (k+1) ms)=some (.norm,shH e p q o a1 a2 a3 a4 a5 a6 vs (k+1) ms 1 [x]):=by
 unfold nN at hy;cases h:decide (Int.ofNat 0<ms.tmod (Int.ofNat (k+1))) with
 |true=>rw [if_pos (of_decide_eq_true h)] at hy;exact ruA [(8,.b true),(17,.b true),(23,.r (.v (.bool true)) (paI (mX e p q o a1 a2 a3 a4 a5 a6) vs 1 [x])),(25,.i (Int.ofNat 1))] (pf4 (aN (j:=0) (k:=k+1) (by omega)) h hy (aB (j:=0) (by omega)))
 |false=>rw [if_neg (of_decide_eq_false h)] at hy;exact ruA [(8,.b true),(17,.b false),(23,.r (.v (.bool true)) (paI (mX e p q o a1 a2 a3 a4 a5 a6) vs 1 [x])),(25,.i (Int.ofNat 1))] (pf4 (aN (j:=0) (k:=k+1) (by omega)) h hy (aB (j:=0) (by omega)))
theorem zmy (N:Nat):run (ah tab ext N) 5 N (aH 155 0) (shH e p q o a1 a2 a3 a4 a5 a6 vs (k+1) ms (k+1) outs)=some (.exit 0,⟨zlA (k+1) ms (k+1)++[(8,.v (.bool false))],paI (mX e p q o a1 a2 a3 a4 a5 a6) vs (k+1) outs⟩):=
 ruA [(8,.b false)] (pf1 (aO (j:=k+1) (k:=k+1) (by omega)))
end
theorem TQ (m:Msg):∃a1 a2 a3 a4 a5 a6,m.cells=mX m.st.e (aI m.st.p) m.nC (aI m.orig) a1 a2 a3 a4 a5 a6:=by obtain ⟨⟨e,p⟩,a,o,⟨a1,a2,a3,a4,a5,a6⟩⟩:=m;exact ⟨a1,a2,a3,a4,au a5,aA a6,rfl⟩
theorem Xy {j:Nat}(h:j<bs.length):(au bs)[j]?=some (bs.getD j zbb).cells:=by grind[fV]
theorem Xx {j:Nat}(h:j<bs.length):bs.getD j zbb∈bs:=by grind
theorem YZ (N:Nat)(hN:190020<=N)(m:Msg)(hm:m.ok)(bs:List Val)(hb:∀b,b∈bs->b.ok)(k:Nat)(hk:bs.length=k+1)(hk2:k<3000):
  ah tab ext (N+1) (.fn 155) [.yl 0,.dp [nat (k+1)],.dp [num m.nC]] (paS m.cells (au bs) 0 [])=some (.tup [],paI m.cells (au bs) (k+1) (aP (iH m bs (k+1)))):=by
 obtain ⟨M,rfl⟩:∃M,N=M+1:=⟨N-1,by omega⟩;have hy:∀j,j<k+1->ah tab ext (M+1) .yl [.yl 0,nat j,num (nN m.nC (k+1) j)] (paS m.cells (au bs) j (aP (iH m bs j)))=some (.v (.bool true),paI m.cells (au bs) (j+1) (aP (iH m bs (j+1)))):=by intro j hj;have h:=zdi M (by omega) m hm (bs.getD j zbb) (hb _ (Xx (by omega))) (au bs) (aP (iH m bs j)) (nN m.nC (k+1) j) j (Xy (by omega)) (by omega) (vO _ _ _).symm;rw [BI,hk];exact h
 have A:aP (iH m bs 0)=[]:=rfl;obtain ⟨f,l,n,q,u,y,E⟩:=TQ m;rw [E] at hy ⊢;have B:∀j,aP (iH m bs (j+1))=aP (iH m bs j)++[(Md m (bs.getD j zbb) bs.length j).cells]:=BI m bs;generalize m.nC=ms at hy ⊢;generalize m.st.e=e at hy ⊢;generalize aI m.st.p=p at hy ⊢;generalize aI m.orig=o at hy ⊢;have a:run (ah tab ext (M+1)) 5 (M+1) (.loop (aH 155 0)) (sh0 e p ms o f l n q u y (au bs) (k+1) ms)=some (.exit 0,⟨zlA (k+1) ms (k+1)++[(8,.v (.bool false))],paI (mX e p ms o f l n q u y) (au bs) (k+1) (aP (iH m bs (k+1)))⟩):=by
  refine bJ (σ:=fun j=>match j with
   |0=>sh0 e p ms o f l n q u y (au bs) (k+1) ms
   |j+1=>shH e p ms o f l n q u y (au bs) (k+1) ms (j+1) (aP (iH m bs (j+1)))) (k:=k+1) (Yy ..) (fun j hj=>?_) (zmy ..) (by simp) (by omega)
  match j with
  |0=>have h:=hy 0 (by omega);rw [A,B 0,A] at h;refine ⟨_,Yx (hy:=h) ..,?_⟩<;>grind[zcX]
  |j+1=>have h:=hy (j+1) hj;rw [B (j+1)] at h;refine ⟨_,zcW (hk:=hj) (hj:=by omega) (hy:=h) ..,?_⟩<;>grind[Yz]
 generalize aP (iH m bs (k+1))=o1 at a ⊢;exact caB [] [(.exit 0,⟨zlA (k+1) ms (k+1)++[(8,.v (.bool false))],paI (mX e p ms o f l n q u y) (au bs) (k+1) o1⟩)] (pf1 a)
section
variable (e:Int) (p:qaY) (q:Int) (o:qaY) (a1 a2 a3:Int) (a4:qaZ) (a5 a6:qaY) (vs:qaY) (n:Nat) (ms:Int) (outs:qaY)
noncomputable def zuU:Bx:=.loop .ready none [(2,.ptr 0 0 0),(3,.ptr 1 0 0),(5,.ptr 2 0 0)] [14,15] paA paB
def zsN:List (Nat×X):=[(2,.ptr 0 0 0),(3,.ptr 1 0 0),(5,.ptr 2 0 0),(13,.fn 155 [.dp [nat n],.dp [num ms]])]
def zsO:St:=⟨zsN n ms,[.var (mX e p q o a1 a2 a3 a4 a5 a6),.var [.sl false 6 vs],.var [.bs 3 0 0],.row 10 []]⟩
def zhP:St:=⟨zsN n ms,[.var (mX e p q o a1 a2 a3 a4 a5 a6),.var [.sl false 6 vs],.var [.bs 5 0 n],.dead,.dead,.row 10 outs]⟩
theorem zpV (N:Nat)(hy:ah tab ext N (.fn 155) [.yl 0,.dp [nat n],.dp [num ms]] (paS (mX e p q o a1 a2 a3 a4 a5 a6) vs 0 [])=some (.tup [],paI (mX e p q o a1 a2 a3 a4 a5 a6) vs n outs)):
  run (ah tab ext N) 0 N (.rf (.t 13) [14,15] [2,3,5] paA paB) (zsO e p q o a1 a2 a3 a4 a5 a6 vs n ms)=some (.norm,zhP e p q o a1 a2 a3 a4 a5 a6 vs n ms outs):=
 U8 (g:=155) (caps:=[.dp [nat n],.dp [num ms]]) (y:=.tup []) (outb:=paI (mX e p q o a1 a2 a3 a4 a5 a6) vs n outs)
  (q:=(.tup [],[.var (mX e p q o a1 a2 a3 a4 a5 a6),.var [.sl false 6 vs],.var [.bs 5 0 n],.dead,zuU,.row 10 outs],[4,0,1,2,3])) hy (by kernel_rfl) (by kernel_rfl) (by kernel_rfl)
theorem zhO (N:Nat)(hl:vs.length=n)(h1:Gam.aF (ah tab ext N) 105 [num q,nat vs.length]=some (.fn 155 [.dp [nat vs.length],.dp [num q]]))(hrf:run (ah tab ext N) 0 N (.rf (.t 13) [14,15] [2,3,5] paA paB) (zsO e p q o a1 a2 a3 a4 a5 a6 vs n q)=some (.norm,zhP e p q o a1 a2 a3 a4 a5 a6 vs n q outs))(ho:outs.length=n):
  Gam.aF (ah tab ext (N+1)) 76 [.agg (mX e p q o a1 a2 a3 a4 a5 a6),.sl false 6 vs]=some (.sl false 10 outs):=by
 subst hl;refine eH [(13,.p (.fn 155 [.dp [nat vs.length],.dp [num q]]))] [(.norm,zhP e p q o a1 a2 a3 a4 a5 a6 vs vs.length q outs)] (pf2 h1 hrf) (x:=.bs 0 0 vs.length) (bx:=[.row 10 outs]) (by kernel_rfl) ?_;simp [X.data,kY (bx:=[.row 10 outs]) (i:=0) (n:=vs.length) rfl ho.symm]
end
theorem O1 (N:Nat)(hN:190030<=N)(m:Msg)(hm:m.ok)(bs:List Val)(hb:∀b,b∈bs->b.ok)(h0:0<bs.length)(h1:bs.length<3000):
  Gam.aF (ah tab ext N) 76 [.agg m.cells,.sl false 6 (au bs)]=some (.sl false 10 (aP (iH m bs bs.length))):=by
 obtain ⟨M,rfl⟩:∃M,N=M+2:=⟨N-2,by omega⟩;obtain ⟨k,f⟩:∃k,bs.length=k+1:=⟨bs.length-1,by omega⟩;have a:=YZ M (by omega) m hm bs hb k f (by omega);have j:=aS bs;have l:=vO m bs bs.length;rw [<-f] at a;obtain ⟨K,rfl⟩:∃K,M=K+1:=⟨M-1,by omega⟩;have n:=Ou K m.nC (nat (au bs).length|>fun _=>Int.ofNat (au bs).length);obtain ⟨q,u,y,A,B,E,h⟩:=TQ m;rw [h] at a ⊢;exact zhO _ _ _ _ _ _ _ _ _ _ _ _ _ _ j n (zpV _ _ _ _ _ _ _ _ _ _ _ _ _ _ _ a) l
theorem AO {ss:List Stp}{j:Nat}(h:j<ss.length):iJ (ss.take (j+1))=iJ (ss.take j)++[(ss[j]).cells]:=by grind[List.take_add_one,iJ]
section
variable (N n j:Nat) (ms ss:qaY) (e q:Int) (p o:qaY) (a1 a2 a3:Int) (a4:qaZ) (a5 a6:qaY)
def smH:St:=⟨[(3,.bs 0 0 j),(6,.sl false 10 ms),(7,nat n),(8,nat j)],[.row 2 ss]⟩
def zsG (mc:List X):St:=⟨[(3,.bs 2 0 (j+1)),(6,.sl false 10 ms),(7,nat n),(8,nat (j+1))],[.dead,.var mc,.row 2 ss]⟩
theorem zcR:canon 0 (smH n j ms ss)=some (smH n j ms ss):=by kernel_rfl
theorem X9:canon 0 (zsG n j ms ss [num e,.sl false 1 p,num q,.sl false 1 o,num a1,num a2,num a3,aC a4,.sl false 6 a5,.sl false 7 a6])=some (smH n (j+1) ms ss):=by kernel_rfl
theorem zha (hi:ms[j]?=some [num e,.sl false 1 p,num q,.sl false 1 o,num a1,num a2,num a3,aC a4,.sl false 6 a5,.sl false 7 a6])(h1:Gam.aF (ah tab ext N) 44 [.agg [num e,.sl false 1 p]]=some (.agg [num e,.sl false 1 p]))(hj:j<n)(hl:n<100000)(hs:j=ss.length):
  run (ah tab ext N) 0 N (aH 23 0) (smH n j ms ss)=some (.norm,zsG n j ms (ss++[[num e,.sl false 1 p]]) [num e,.sl false 1 p,num q,.sl false 1 o,num a1,num a2,num a3,aC a4,.sl false 6 a5,.sl false 7 a6]):=
 ruA [(9,.b true),(10,.e [num e,.sl false 1 p,num q,.sl false 1 o,num a1,num a2,num a3,aC a4,.sl false 6 a5,.sl false 7 a6]),(15,.p (.agg [num e,.sl false 1 p])),(17,.app),(18,.i (Int.ofNat (j+1)))] (pf5 (aN hj) hi h1 (fJ j 0 32 hs (by omega) (by omega)) (aB (j:=j) (by omega)))
theorem zmi:run (ah tab ext N) 0 N (aH 23 0) (smH n n ms ss)=some (.exit 0,⟨[(3,.bs 0 0 n),(6,.sl false 10 ms),(7,nat n),(8,nat n),(9,.v (.bool false))],[.row 2 ss]⟩):=
 ruA [(9,.b false)] (pf1 (aO (j:=n) (k:=n) (by omega)))
end
def fZ (ms:List Msg):List Stp:=ms.map (·.st)
theorem KZ {ms:List Msg}{j:Nat}(h:j<ms.length):iJ (fZ (ms.take (j+1)))=iJ (fZ (ms.take j))++[(ms[j]).st.cells]:=by grind[List.take_add_one,iJ,fZ]
theorem Oo (N:Nat)(ms:List Msg)(hm:∀m,m∈ms->m.ok)(h0:0<ms.length)(hl:ms.length<50000)(hN:ms.length+10<=N):Gam.aF (ah tab ext N) 23 [.sl false 10 (aP ms)]=some (.sl false 2 (iJ (fZ ms))):=by
 obtain ⟨M,rfl⟩:∃M,N=M+3:=⟨N-3,by omega⟩;have f:=gW ms;have a:run (ah tab ext (M+2)) 0 (M+2) (.loop (aH 23 0)) (smH ms.length 0 (aP ms) [])=some (.exit 0,⟨[(3,.bs 0 0 ms.length),(6,.sl false 10 (aP ms)),(7,nat ms.length),(8,nat ms.length),(9,.v (.bool false))],[.row 2 (iJ (fZ ms))]⟩):=by
  refine bJ (σ:=fun j=>smH ms.length j (aP ms) (iJ (fZ (ms.take j)))) (k:=ms.length) (zcR ..) (fun j hj=>?_) ?_ (by simp) (by omega);·have h:=lK M (ms[j]).st (hm _ (qah hj)).st;have l:=vU hj;have u:=KZ hj;generalize ms[j]=q at h l u;obtain ⟨⟨e,p⟩,w,o,⟨y,A,B,E,F,H⟩⟩:=q;refine ⟨_,zha (hi:=l) (h1:=h) (hj:=hj) (hl:=by omega) (hs:=by grind[iJ,fZ]) ..,?_⟩;rw [u];exact X9 ..
  ·grind[zmi]
 rw [<-f] at a;have hs:(iJ (fZ ms)).length=(aP ms).length:=by simp [iJ,fZ,aP]
 generalize iJ (fZ ms)=so at a hs ⊢;generalize aP ms=mc at a hs ⊢;refine eH [] [(.exit 0,⟨[(3,.bs 0 0 mc.length),(6,.sl false 10 mc),(7,nat mc.length),(8,nat mc.length),(9,.v (.bool false))],[.row 2 so]⟩)] (pf1 a) (x:=.bs 0 0 mc.length) (bx:=[.row 2 so]) (by kernel_rfl) ?_;simp [X.data,kY (bx:=[.row 2 so]) (i:=0) (n:=mc.length) rfl hs.symm]
section
variable (N n j:Nat) (e k:Int) (p:qaY) (nm:qaZ) (l ss:qaY) (se:Int) (sp:qaY)
def itH:St:=⟨[(0,.ptr 0 0 0),(5,.sl false 2 l),(6,nat n),(7,nat j)],[.var [num e,.sl false 1 p,num k,aC nm,.bs 1 0 j,bD],.row 2 ss]⟩
def zsR:St:=⟨[(0,.ptr 0 0 0),(5,.sl false 2 l),(6,nat n),(7,nat (j+1))],[.var [num e,.sl false 1 p,num k,aC nm,.bs 3 0 (j+1),bD],.dead,.var [num se,.sl false 1 sp],.row 2 ss]⟩
theorem Jm:canon 1 (itH n j e k p nm l ss)=some (itH n j e k p nm l ss):=by kernel_rfl
theorem CV:canon 1 (zsR n j e k p nm l ss se sp)=some (itH n (j+1) e k p nm l ss):=by kernel_rfl
theorem Pj (hi:l[j]?=some [num se,.sl false 1 sp])(h1:Gam.aF (ah tab ext N) 44 [.agg [num se,.sl false 1 sp]]=some (.agg [num se,.sl false 1 sp]))(hj:j<n)(hl:n<100000)(hs:j=ss.length):
  run (ah tab ext N) 1 N (aH 78 0) (itH n j e k p nm l ss)=some (.norm,zsR n j e k p nm l (ss++[[num se,.sl false 1 sp]]) se sp):=
 ruA [(8,.b true),(9,.e [num se,.sl false 1 sp]),(17,.p (.agg [num se,.sl false 1 sp])),(19,.app),(22,.i (Int.ofNat (j+1)))] (pf5 (aN hj) hi h1 (fJ j 1 32 hs (by omega) (by omega)) (aB (j:=j) (by omega)))
theorem ZG:run (ah tab ext N) 1 N (aH 78 0) (itH n n e k p nm l ss)=some (.exit 0,⟨[(0,.ptr 0 0 0),(5,.sl false 2 l),(6,nat n),(7,nat n),(8,.v (.bool false))],[.var [num e,.sl false 1 p,num k,aC nm,.bs 1 0 n,bD],.row 2 ss]⟩):=
 ruA [(8,.b false)] (pf1 (aO (j:=n) (k:=n) (by omega)))
end
theorem ZI (N:Nat)(ss:List Stp)(hs:∀s,s∈ss->s.ok)(hl:ss.length<50000)(hN:ss.length+10<=N)(e k:Int)(p:qaY)(nm:qaZ):
  ah tab ext N (.fn 78) [.ptr 0 0 0,.dp [.sl false 2 (iJ ss)]] [.var [num e,.sl false 1 p,num k,aC nm,.sl true 2 [],bD]]=some (.tup [],[.var [num e,.sl false 1 p,num k,aC nm,.bs 1 0 ss.length,bD],.row 2 (iJ ss)]):=by
 obtain ⟨M,rfl⟩:∃M,N=M+3:=⟨N-3,by omega⟩;have f:=yR ss;have a:run (ah tab ext (M+2)) 1 (M+2) (.loop (aH 78 0)) (itH ss.length 0 e k p nm (iJ ss) [])=some (.exit 0,⟨[(0,.ptr 0 0 0),(5,.sl false 2 (iJ ss)),(6,nat ss.length),(7,nat ss.length),(8,.v (.bool false))],[.var [num e,.sl false 1 p,num k,aC nm,.bs 1 0 ss.length,bD],.row 2 (iJ ss)]⟩):=by
  refine bJ (σ:=fun j=>itH ss.length j e k p nm (iJ ss) (iJ (ss.take j))) (k:=ss.length) (Jm ..) (fun j hj=>?_) ?_ (by simp) (by omega);·have h:=lK M ss[j] (hs _ (qah hj));have l:=XU hj;have m:=AO hj;generalize ss[j]=q at h l m;obtain ⟨n,u⟩:=q;refine ⟨_,Pj (hi:=l) (h1:=h) (hj:=hj) (hl:=by omega) (hs:=by grind[iJ]) ..,?_⟩;rw [m];exact CV ..
  ·grind[ZG]
 rw [<-f] at a ⊢;generalize iJ ss=so at a ⊢;exact caB [] [(.exit 0,⟨[(0,.ptr 0 0 0),(5,.sl false 2 so),(6,nat so.length),(7,nat so.length),(8,.v (.bool false))],[.var [num e,.sl false 1 p,num k,aC nm,.bs 1 0 so.length,bD],.row 2 so]⟩)] (pf1 a)
theorem znK (N:Nat)(e q:Int)(p o:qaY)(a1 a2 a3:Int)(a4:qaZ)(a5 a6:qaY)(nm:qaZ)(l:qaY)(h1:Gam.aF (ah tab ext (N+5)) 44 [.agg [num e,.sl false 1 p]]=some (.agg [num e,.sl false 1 p]))
  (h2:ah tab ext (N+5) (.fn 78) [.ptr 0 0 0,.dp [.sl false 2 l]] [.var [num e,.sl false 1 p,num 1,aC nm,.sl true 2 [],bD]]=some (.tup [],[.var [num e,.sl false 1 p,num 1,aC nm,.bs 1 0 l.length,bD],.row 2 l])):
  Gam.aF (ah tab ext (N+6)) 53 [.agg [num e,.sl false 1 p,num q,.sl false 1 o,num a1,num a2,num a3,aC a4,.sl false 6 a5,.sl false 7 a6],aC nm,num 1,.sl false 1 [[.fn 78 [.dp [.sl false 2 l]]]]]=some (.agg [num e,.sl false 1 p,num 1,aC nm,.sl false 2 l,bD]):=by
 refine eH [(14,.p (.agg [num e,.sl false 1 p])),(25,.r (.tup []) [.var [num e,.sl false 1 p,num 1,aC nm,.bs 1 0 l.length,bD],.row 2 l])] [] (pf2 h1 h2) (x:=.agg [num e,.sl false 1 p,num 1,aC nm,.bs 0 0 l.length,bD]) (bx:=[.row 2 l]) (by kernel_rfl) ?_;have a:=kY (bx:=[.row 2 l]) (i:=0) (n:=l.length) rfl rfl<;>simp_all[X.data,dZ,num,aC,bD]
theorem IU (N:Nat)(m:Msg)(h:m.st.ok)(nm:qaZ)(ss:List Stp)(hs:∀s,s∈ss->s.ok)(hl:ss.length<50000)(hN:ss.length+30<=N):Gam.aF (ah tab ext N) 22 [.agg m.cells,aC nm,.sl false 2 (iJ ss)]=some (.agg (Fte.mk m.st 1 nm ss ⟨#[]⟩).cells):=by obtain ⟨M,rfl⟩:∃M,N=M+12:=⟨N-12,by omega⟩;have B:=lK (M+8) m.st h;have a:=ZI (M+10) ss hs hl (by omega) m.st.e 1 (aI m.st.p) nm;rw [<-yR ss] at a;obtain ⟨⟨e,p⟩,w,o,⟨j,n,q,u,y,A⟩⟩:=m;have f:=znK (M+5) e w (aI p) (aI o) j n q u (au y) (aA A) nm (iJ ss) B a;show _=some (X.agg [num e,.sl false 1 (aI p),num 1,aC nm,.sl false 2 (iJ ss),bD]);generalize iJ ss=l at f ⊢;exact puA [(12,.p (.agg [num e,.sl false 1 (aI p),num 1,aC nm,.sl false 2 l,bD]))] (pf1 f) (.agg [num e,.sl false 1 (aI p),num 1,aC nm,.sl false 2 l,bD])
theorem zQ (n:Nat)(v:Val):au (List.replicate n v)=List.replicate n v.cells:=by
 induction n with
 |zero=>rfl
 |succ n ih=>exact congrArg (v.cells::·) ih
def fE (m:Msg)(n:Nat):List Msg:=iH m (List.replicate n m.body) n
theorem QI (N:Nat)(hN:190030<=N)(m:Msg)(hm:m.ok)(n:Nat)(h0:0<n)(h1:n<3000):
  Gam.aF (ah tab ext N) 76 [.agg m.cells,.sl false 6 (List.replicate n m.body.cells)]=some (.sl false 10 (aP (fE m n))):=by
 have h:=O1 N hN m hm (List.replicate n m.body) (fun b a=>by rw [List.eq_of_mem_replicate a];exact hm.body) (by grind) (by grind);rw [zQ,List.length_replicate] at h;exact h
theorem EC (nd:Nod)(n:Nat)(hn:nd.number=Int.ofNat n)(h0:0<n)(h1:n<=64)(m:Msg)(hm:m.ok)(N:Nat)(hN:190100<=N):
  Gam.aF (ah tab ext N) 50 [.agg nd.cells,.agg m.cells]=some (.agg [.sl false 10 (aP (fE m n)),num 0,ak true,bD]):=by
 obtain ⟨M,rfl⟩:∃M,N=M+1:=⟨N-1,by omega⟩;have j:=zc7 m.body n h0 h1 M (by omega);have h:=QI M (by omega) m hm n h0 (by omega);have J:decide (Int.ofNat n<1)=false:=decide_eq_false (by grind);have L:decide (Int.ofNat n>64)=false:=decide_eq_false (by grind);obtain ⟨l,Q,S,U,w,V,W,u,⟨a,b,c,d⟩,we,el,f,ty,P,O,Z,Y⟩:=nd;dsimp only at hn;subst hn;generalize aP (fE m n)=ms at h ⊢;obtain ⟨⟨e,p⟩,q,o,⟨y,A,B,E,F,H⟩⟩:=m;dsimp only at j h;generalize List.replicate n (Val.mk y A B E F H).cells=vs at j h;exact puA [(7,.b false),(11,.b false),(21,.p (.sl false 6 vs)),(22,.p (.sl false 10 ms))] (pf4 J L j h) (.agg ([.sl false 10 ms,num 0,ak true,bD]))
theorem Jb (nd:Nod)(hn:nd.number<1\/64<nd.number)(m:Msg)(N:Nat)(hN:100<=N):
  Gam.aF (ah tab ext N) 50 [.agg nd.cells,.agg m.cells]=some (.agg [.sl false 10 [],num 0,ak false,aC ⟨#[117,110,114,111,117,116,97,98,108,101]⟩]):=by
 obtain ⟨M,rfl⟩:∃M,N=M+90:=⟨N-90,by omega⟩;obtain ⟨j,L,O,P,w,Q,S,l,⟨a,b,c,d⟩,Y,el,f,W,J,H,V,U⟩:=nd;obtain ⟨⟨e,p⟩,q,o,⟨u,y,A,B,E,F⟩⟩:=m;dsimp only at hn;cases h:decide (w<1) with
 |true=>exact puA [(7,.b true)] (pf1 h) (.agg ([.sl false 10 [],num 0,ak false,aC ⟨#[117,110,114,111,117,116,97,98,108,101]⟩]))
 |false=>have n:decide (w>64)=true:=decide_eq_true (by grind);exact puA [(7,.b false),(11,.b true)] (pf2 h n) (.agg ([.sl false 10 [],num 0,ak false,aC ⟨#[117,110,114,111,117,116,97,98,108,101]⟩]))
def zbU (ms:qaY)(j:Nat):qaY:=(List.range j).map fun i=>nat i::ms.getD i []
theorem BO (ms:qaY)(j:Nat):(zbU ms j).length=j:=by simp [zbU]
theorem Y2 (ms:qaY)(j:Nat):zbU ms (j+1)=zbU ms j++[nat j::ms.getD j []]:=by grind[zbU,List.range_succ]
section
variable (N:Nat) (nd:Nod) (a b:Int) (ss:qaY) (e q:Int) (p o:qaY) (a1 a2 a3:Int) (a4:qaZ) (a5 a6:qaY) (ms:qaY) (n j:Nat) (outs:qaY) (be bq:Int) (bp bo:qaY) (b1 b2 b3:Int) (b4:qaZ) (b5 b6:qaY)
def zlD:List (Nat×X):=[(3,.ptr 0 0 0),(6,.ptr 1 0 0),(7,.ptr 2 0 0),(8,.ptr 3 0 0),(11,.ptr 4 0 0),(66,.sl false 10 ms),(67,nat n),(68,nat j)]
def zuV:List X:=[num 0,num 0,.sl true 10 [],.sl true 11 [],.sl true 11 [],.sl true 6 [],.sl true 10 []]
def zlE (k:Nat):List Bx:=[.var nd.cells,.var zuV,.var [num a,num b,.sl false 10 ss,.bs k 0 j,.sl true 11 [],.sl true 6 [],.sl true 10 []],.var (mX e p q o a1 a2 a3 a4 a5 a6),.var [.sl false 10 ms,num 0,ak true,bD]]
def rsH:St:=⟨zlD ms n j,zlE nd a b ss e q p o a1 a2 a3 a4 a5 a6 ms j 5++[.row 11 outs]⟩
def zsJ:St:=⟨zlD ms n (j+1),zlE nd a b ss e q p o a1 a2 a3 a4 a5 a6 ms (j+1) 7++[.dead,.var (mX be bp bq bo b1 b2 b3 b4 b5 b6),.row 11 outs]⟩
theorem zc3:canon 0 (rsH nd a b ss e q p o a1 a2 a3 a4 a5 a6 ms n j outs)=some (rsH nd a b ss e q p o a1 a2 a3 a4 a5 a6 ms n j outs):=by kernel_rfl
theorem YC:canon 0 (zsJ nd a b ss e q p o a1 a2 a3 a4 a5 a6 ms n j outs be bq bp bo b1 b2 b3 b4 b5 b6)=some (rsH nd a b ss e q p o a1 a2 a3 a4 a5 a6 ms n (j+1) outs):=by kernel_rfl
theorem zhu (hi:ms[j]?=some (mX be bp bq bo b1 b2 b3 b4 b5 b6))(hj:j<n)(hl:n<4000)(ho:j=outs.length):
  run (ah tab ext N) 0 N (aH 8 0) (rsH nd a b ss e q p o a1 a2 a3 a4 a5 a6 ms n j outs)=some (.norm,zsJ nd a b ss e q p o a1 a2 a3 a4 a5 a6 ms n j (outs++[nat j::mX be bp bq bo b1 b2 b3 b4 b5 b6]) be bq bp bo b1 b2 b3 b4 b5 b6):=
 ruA [(69,.b true),(71,.e (mX be bp bq bo b1 b2 b3 b4 b5 b6)),(79,.app),(81,.i (Int.ofNat (j+1)))] (pf4 (aN hj) hi (fJ j 5 160 ho (by omega) (by omega)) (aB (j:=j) (by omega)))
theorem zmC:run (ah tab ext N) 0 N (aH 8 0) (rsH nd a b ss e q p o a1 a2 a3 a4 a5 a6 ms n n outs)=some (.exit 1,⟨zlD ms n n++[(69,.v (.bool false))],zlE nd a b ss e q p o a1 a2 a3 a4 a5 a6 ms n 5++[.row 11 outs]⟩):=
 ruA [(69,.b false)] (pf1 (aO (j:=n) (k:=n) (by omega)))
end
theorem zmB (N:Nat)(nd:Nod)(hk:nd.kind=12)(a b:Int)(ss:qaY)(e q:Int)(p o:qaY)(a1 a2 a3:Int)(a4:qaZ)(a5 a6:qaY)(ie:Int)(ip:qaY)(i2 i3:Int)(ix1 ix2:Bool)(f1 f2 f3:Int)(f4:qaZ)(f5 f6:qaY)(ms outs st:qaY)(fc:List X)
  (h1:Gam.aF (ah tab ext (N+100)) 17 [.agg [num a,num b,.sl false 10 ss]]=some (.agg [num a,num b,.sl false 10 ss])) (h2:Gam.aF (ah tab ext (N+100)) 18 [.agg (mX e p q o a1 a2 a3 a4 a5 a6)]=some (.agg (mX e p q o a1 a2 a3 a4 a5 a6)))
  (h3:Gam.aF (ah tab ext (N+100)) 50 [.agg nd.cells,.agg (mX e p q o a1 a2 a3 a4 a5 a6)]=some (.agg [.sl false 10 ms,num 0,ak true,bD])) (h0:(Int.ofNat ms.length==0)=false)
  (hrun:run (ah tab ext (N+100)) 0 (N+100) (.loop (aH 8 0)) (rsH nd a b ss e q p o a1 a2 a3 a4 a5 a6 ms ms.length 0 [])=some (.exit 1,⟨zlD ms ms.length ms.length++[(69,.v (.bool false))],zlE nd a b ss e q p o a1 a2 a3 a4 a5 a6 ms ms.length 5++[.row 11 outs]⟩))
  (h4:Gam.aF (ah tab ext (N+100)) 23 [.sl false 10 ms]=some (.sl false 2 st)) (h5:Gam.aF (ah tab ext (N+100)) 22 [.agg (mX e p q o a1 a2 a3 a4 a5 a6),aC nd.name,.sl false 2 st]=some (.agg fc)) (ho:outs.length=ms.length)
  (hfc:∃(x1:Int) (x2:qaY) (x3:Int) (x4:qaZ) (x5:qaY) (x6:qaZ),fc=[num x1,.sl false 1 x2,num x3,aC x4,.sl false 2 x5,aC x6]):
  Gam.aF (ah tab ext (N+101)) 8 [.agg nd.cells,.agg [num a,num b,.sl false 10 ss],.agg ([num 1,num i2,num ie,.sl false 1 ip]++mX e p q o a1 a2 a3 a4 a5 a6++[num i3,ak ix1,ak ix2,num f1,num f2,num f3,aC f4,.sl false 6 f5,.sl false 7 f6])]=some (.agg [num a,num b,.sl false 10 ss,.sl false 11 outs,.sl false 11 [],.sl false 6 [fc],.sl false 10 []]):=by
 obtain ⟨h,S,u,y,w,A,B,j,⟨H,J,L,M⟩,P,el,f,O,m,l,F,E⟩:=nd;dsimp only at hk;subst hk;obtain ⟨x1,x2,x3,x4,x5,x6,rfl⟩:=hfc;refine eH [(15,.p (.agg [num a,num b,.sl false 10 ss])),(23,.p (.agg (mX e p q o a1 a2 a3 a4 a5 a6))),(36,.p (.agg [.sl false 10 ms,num 0,ak true,bD])),(50,.b false),(87,.p (.sl false 2 st)),(88,.p (.agg [num x1,.sl false 1 x2,num x3,aC x4,.sl false 2 x5,aC x6]))]
  [(.exit 1,⟨zlD ms ms.length ms.length++[(69,.v (.bool false))],zlE ⟨h,12,u,y,w,A,B,j,(H,J,L,M),P,el,f,O,m,l,F,E⟩ a b ss e q p o a1 a2 a3 a4 a5 a6 ms ms.length 5++[.row 11 outs]⟩)] (pf7 h1 h2 h3 h0 hrun h4 h5) (x:=.agg [num a,num b,.sl false 10 ss,.bs 0 0 ms.length,.sl true 11 [],.sl true 6 [[num x1,.sl false 1 x2,num x3,aC x4,.sl false 2 x5,aC x6]],.sl true 10 []]) (bx:=[.row 11 outs]) (by kernel_rfl) ?_
 have Q:=kY (bx:=[.row 11 outs]) (i:=0) (n:=ms.length) rfl ho.symm<;>simp_all[X.data,dZ,num]
def mcO (s:Stt)(m:Msg)(name:qaZ)(n:Nat):Ocm:=⟨s,(List.range n).map fun i=>⟨Int.ofNat i,Md m ((List.replicate n m.body).getD i zbb) n i⟩,[⟨m.st,1,name,fZ (fE m n),⟨#[]⟩⟩],[]⟩
theorem GK (m:Msg){n j:Nat}(h:j<n):(aP (fE m n))[j]?=some (Md m ((List.replicate n m.body).getD j zbb) n j).cells:=by grind[fE,iH,aP]
theorem zib (m:Msg){n j:Nat}(h:j<n):(List.replicate n m.body).getD j zbb=m.body:=by grind
theorem zhR (s:Stt)(m:Msg)(name:qaZ)(n:Nat):zbU (aP (fE m n)) n=uw (mcO s m name n).outs:=by
 unfold zbU uw mcO;rw [List.map_map];refine List.map_congr_left fun i a=>?_;have h:=GK m (List.mem_range.1 a);have:(aP (fE m n)).getD i []=(Md m ((List.replicate n m.body).getD i zbb) n i).cells:=by rw [qax,h];rfl
 rw [this];rfl
theorem zhM (m:Msg)(hm:m.ok)(hp:m.st.p.length<50000)(b:Val)(hb:b.ok)(n j:Nat):(Md m b n j).ok:=
 ⟨⟨by show (m.st.p++[Int.ofNat j]).length<=60000<;>grind⟩,hm.orig,hb⟩
theorem Nw (m:Msg)(hm:m.ok)(hp:m.st.p.length<50000)(n:Nat):∀x,x∈fE m n->x.ok:=by intro x a;simp only [fE,iH,qal,List.mem_range] at a;obtain ⟨i,f,rfl⟩:=a;rw [zib m f];exact zhM m hm hp _ hm.body _ _
theorem iC (m:Msg)(n:Nat):(fE m n).length=n:=by grind[fE,iH]
theorem zbo (m:Msg):∃a1 a2 a3 a4 a5 a6,m.cells=mX m.st.e (aI m.st.p) m.nC (aI m.orig) a1 a2 a3 a4 (au a5) (aA a6):=by obtain ⟨⟨e,p⟩,a,o,⟨a1,a2,a3,a4,a5,a6⟩⟩:=m;exact ⟨a1,a2,a3,a4,a5,a6,rfl⟩
theorem LK (nd:Nod)(n:Nat)(hn:nd.number=Int.ofNat n)(h0:0<n)(h1:n<=64)(s:Stt)(hs:s.ok)(i:Inp)(hm:i.m.ok)(hp:i.m.st.p.length<50000)(N:Nat)(hN:200700<=N):
  Gam.aF (ah tab ext N) 8 [.agg ({nd with kind:=12}:Nod).cells,.agg s.cells,.agg ({i with kind:=1}:Inp).cells]=some (.agg (mcO s i.m nd.name n).cells):=by
 obtain ⟨M,rfl⟩:∃M,N=M+101:=⟨N-101,by omega⟩;have g1:=dP (M+100) s hs (by omega);have g2:=jm (M+100) i.m hm (by omega);have Y:=EC {nd with kind:=12} n hn h0 h1 i.m hm (M+100) (by omega);have S:=Oo (M+100) (fE i.m n) (Nw i.m hm hp n) (by grind[iC]) (by grind[iC]) (by grind[iC]);have U:=IU (M+100) i.m hm.st nd.name (fZ (fE i.m n)) (fun y hy=>by simp [fZ] at hy;obtain ⟨z,hz,rfl⟩:=hy;exact (Nw i.m hm hp n z hz).st) (by grind[fZ,iC]) (by grind[fZ,iC]);have f:(aP (fE i.m n)).length=n:=by rw [gW,iC]
 have L:=zhR s i.m nd.name n;have Z:∀j,j<n->∃be bq bp bo b1 b2 b3 b4 b5 b6,(aP (fE i.m n))[j]?=some (mX be bq bp bo b1 b2 b3 b4 b5 b6):=by intro j hj;obtain ⟨l,u,A,B,E,F,h⟩:=zbo (Md i.m ((List.replicate n i.m.body).getD j zbb) n j);rw [GK i.m hj,h];exact ⟨_,_,_,_,_,_,_,_,_,_,rfl⟩
 have W:({nd with kind:=12}:Nod).name=nd.name:=rfl;have H:(mcO s i.m nd.name n).cells=[num s.n,num s.t,.sl false 10 (bf s.slots),.sl false 11 (uw (mcO s i.m nd.name n).outs),.sl false 11 [],.sl false 6 [(Fte.mk i.m.st 1 nd.name (fZ (fE i.m n)) ⟨#[]⟩).cells],.sl false 10 []]:=rfl;rw [H,<-L];generalize J:(Fte.mk i.m.st 1 nd.name (fZ (fE i.m n)) ⟨#[]⟩).cells=fc at U ⊢;have V:∃(x1:Int) (x2:qaY) (x3:Int) (x4:qaZ) (x5:qaY) (x6:qaZ),fc=[num x1,.sl false 1 x2,num x3,aC x4,.sl false 2 x5,aC x6]:=⟨_,_,_,_,_,_,J.symm⟩;clear J H L;generalize iJ (fZ (fE i.m n))=st at S U;generalize aP (fE i.m n)=a at Y S f Z ⊢;obtain ⟨kd,tm,⟨se,sp⟩,⟨⟨e,p⟩,q,o,⟨l,u,A,B,E,F⟩⟩,x,b1,b2,⟨c1,c2,c3,c4,c5,c6⟩⟩:=i;obtain ⟨P,t,Q⟩:=s;have O:run (ah tab ext (M+100)) 0 (M+100) (.loop (aH 8 0)) (rsH {nd with kind:=12} P t (bf Q) e q (aI p) (aI o) l u A B (au E) (aA F) a a.length 0 [])=some (.exit 1,⟨zlD a a.length a.length++[(69,.v (.bool false))],zlE {nd with kind:=12} P t (bf Q) e q (aI p) (aI o) l u A B (au E) (aA F) a a.length 5++[.row 11 (zbU a a.length)]⟩):=by refine bJ (σ:=fun j=>rsH {nd with kind:=12} P t (bf Q) e q (aI p) (aI o) l u A B (au E) (aA F) a a.length j (zbU a j)) (k:=a.length) (zc3 ..) (fun j hj=>?_) (zmC ..) (by simp) (by omega);obtain ⟨be,bp,bq,bo,b1,b2,b3,b4,b5,b6,hi⟩:=Z j (by omega);refine ⟨_,zhu (hi:=hi) (hj:=hj) (hl:=by omega) (ho:=(BO _ _).symm) ..,?_⟩;rw [Y2,qax,hi];exact YC ..
 rw [<-f];exact zmB M {nd with kind:=12} rfl P t (bf Q) e q (aI p) (aI o) l u A B (au E) (aA F) se (aI sp) tm x b1 b2 c1 c2 c3 c4 (au c5) (aA c6) a (zbU a a.length) st fc g1 g2 Y
  (by grind) O S U (BO _ _) V
section
variable (N:Nat) (nd:Nod) (a b:Int) (ss:qaY) (e q:Int) (p o:qaY) (a1 a2 a3:Int) (a4:qaZ) (a5 a6:qaY) (k j:Nat) (outs sts:qaY) (x:List X)
end
section
variable (N:Nat) (nd:Nod) (a b:Int) (ss:qaY) (e q:Int) (o:qaY) (a1 a2 a3:Int) (a4:qaZ) (a5 a6:qaY) (k j:Nat) (outs sts:qaY)
end
def unr:qaZ:=⟨#[117,110,114,111,117,116,97,98,108,101]⟩
theorem U5 (nd:Nod)(hn:nd.number<1\/64<nd.number)(s:Stt)(hs:s.ok)(i:Inp)(hm:i.m.ok)(N:Nat)(hN:200700<=N):Gam.aF (ah tab ext N) 8 [.agg ({nd with kind:=12}:Nod).cells,.agg s.cells,.agg ({i with kind:=1}:Inp).cells]=some (.agg (zbT false s i.m nd.name unr)):=by obtain ⟨M,rfl⟩:∃M,N=M+101:=⟨N-101,by omega⟩;have F:=dP (M+100) s hs (by omega);have H:=jm (M+100) i.m hm (by omega);have J:=je i.m hm nd.name unr (M+100) (by omega);have L:=Jb {nd with kind:=12} hn i.m (M+100) (by omega);obtain ⟨kd,tm,⟨se,sp⟩,⟨⟨e,p⟩,A,o,⟨h,j,l,q,u,y⟩⟩,x,O,P,⟨Q,S,U,V,W,Y⟩⟩:=i;obtain ⟨name,k1,k2,k3,w,k5,k6,E,⟨a,b,c,d⟩,we,el,f,ty,ex,Z,ru,ne⟩:=nd;obtain ⟨n,t,B⟩:=s;exact puA [(15,.p (.agg (Stt.mk n t B).cells)),(23,.p (.agg (Msg.mk ⟨e,p⟩ A o (.mk h j l q u y)).cells)),(36,.p (.agg [.sl false 10 [],num 0,ak false,aC unr])),(56,.p (.agg (Fte.mk ⟨e,p⟩ 4 name [] unr).cells))] (pf4 F H L J) (.agg [num n,num t,.sl false 10 (bf B),.sl true 11 [],.sl true 11 [],.sl true 6 [(Fte.mk ⟨e,p⟩ 4 name [] unr).cells],.sl true 10 [(Msg.mk ⟨e,p⟩ A o (.mk h j l q u y)).cells]])
theorem Uz (i:Inp):(bG i).m.st.p.length<50000:=by rw [Ac];have:=uH i.m.st.p;show (zb2 i.m.st.p).length<50000;omega
section
variable (N:Nat) (a b:Int) (ss outs dK letters:qaY) (j:Nat)
end
end Go.Proofs.YtpcjeobkehmhpaaGreatDoor
