/-.-/
import Derived.Test.YtonnphbfclaigaaGreatDoorW13
set_option linter.all false
namespace Go.Proofs.YtonnphbfclaigaaGreatDoor
open Go.Em
set_option maxRecDepth 100000
variable {τ:St}
def SlP (acc:List Msg)(k v:Nat)(s:Slt):Prop:=
 chkN s.n s.t=0/\(∀j (h:j<s.items.length),Pck (k+j) (chkM s.items[j]) (hasSt (acc++s.items.take j) s.items[j])=true)/\(∀j (h:j<s.vals.length),Pcv (v+j) (chkV s.vals[j])=true)
theorem slot_ex (s:Slt)(hs:s.ok)(acc:List Msg)(k v:Nat)(hacc:∀o,o∈acc->o.ok)(hk:k=acc.length)(hl:acc.length+s.items.length<=60000)(hv:v<=900000):
  (¬SlP acc k v s/\∃(c:Int) (f:Bool) (k1 v1:Nat) (acc1:qaV),c≠0/\∀N,120050<=N->callF tab ext N (.fn 160) [.ptr 0 0 0,.agg s.cells] [.var [.bs 1 0 k,nat v],.row 10 (msgsC acc)]=some (num c,cvB f k1 v1 acc1))\/
  (SlP acc k v s/\∀N,120050<=N->callF tab ext N (.fn 160) [.ptr 0 0 0,.agg s.cells] [.var [.bs 1 0 k,nat v],.row 10 (msgsC acc)]=some (num 0,cvB (decide (0<s.items.length)) (k+s.items.length) (v+(cellsL s.vals).length) (msgsC (acc++s.items)))):=by
 have hc0:=chkN_at s.n s.t;have hit:=hs.item;have hval:=hs.val;have hvl:=hs.vals;obtain ⟨⟨k0,i0,s0,t0,l0,f0⟩,n0,d0,items,vals⟩:=s;unfold SlP;dsimp only at hc0 hit hval hvl hl ⊢;generalize chkN n0 d0=c0 at hc0 ⊢;have hn:=msgsC_length items;cases h0:(!(c0==0)) with
 |true=>left;refine ⟨(fun h=>by rw [h.1] at h0;cases h0),c0,false,k,v,msgsC acc,(by intro h;rw [h] at h0;cases h0),fun N hN=>?_⟩;obtain ⟨M,rfl⟩:∃M,N=M+1:=⟨N-1,by omega⟩;exact callF_of [(16,.p (num c0)),(18,.b true)] [] (pf2 (hc0 M (by omega)) h0) (by kernel_rfl)
 |false=>
  have hz0:c0=0:=by simpa using h0
  have hA:=xk_items k0 i0 s0 t0 (cellsL l0) (cellsF f0) n0 d0 items (cellsL vals) k v acc hit hacc hk hl;have hB:∀f,canon 2 ⟨[(0,.ptr 0 0 0),(56,.sl false 6 (cellsL vals)),(57,nat (cellsL vals).length),(58,nat 0)],ckB f (k+items.length) v (msgsC (acc++items)) (slotC k0 i0 s0 t0 (cellsL l0) (cellsF f0) n0 d0 (msgsC items) (cellsL vals))⟩=some (cvSt f (cellsL vals) (cellsL vals).length 0 (k+items.length) v (msgsC (acc++items))):=fun f=>by
   cases f<;>kernel_rfl
  have hC:=yv_loop vals (k+items.length) v (msgsC (acc++items)) (decide (0<items.length)) hval hvl hv (hB _);generalize decide (0<items.length)=f at hA hC;rcases hA with ⟨hPA,r,hr,hA⟩|⟨hPA,hA⟩
  ·cases hr with
   |a c k1 v1 acc1 x y h=>refine .inl ⟨fun hh=>hPA hh.2.1,c,false,k1,v1,acc1,h,fun N hN=>?_⟩;obtain ⟨M,rfl⟩:∃M,N=M+1:=⟨N-1,by omega⟩;exact callF_of [(16,.p (num c0)),(18,.b false)] [(.ret,⟨[(4,num c)],[.var [.bs 1 0 k1,nat v1],.row 10 acc1,x,y]⟩)] (pf3 (hc0 M (by omega)) h0 (hA M (by omega))) (by kernel_rfl)
   |b c k1 v1 acc1 x y h=>refine .inl ⟨fun hh=>hPA hh.2.1,c,true,k1,v1,acc1,h,fun N hN=>?_⟩;obtain ⟨M,rfl⟩:∃M,N=M+1:=⟨N-1,by omega⟩;exact callF_of [(16,.p (num c0)),(18,.b false)] [(.ret,⟨[(4,num c)],[.var [.bs 3 0 k1,nat v1],.dead,x,.row 10 acc1,y]⟩)] (pf3 (hc0 M (by omega)) h0 (hA M (by omega))) (by kernel_rfl)
   |c c k1 v1 acc1 x h=>refine .inl ⟨fun hh=>hPA hh.2.1,c,false,k1,v1,acc1,h,fun N hN=>?_⟩;obtain ⟨M,rfl⟩:∃M,N=M+1:=⟨N-1,by omega⟩;exact callF_of [(16,.p (num c0)),(18,.b false)] [(.ret,⟨[(4,num c)],[.var [.bs 1 0 k1,nat v1],.row 10 acc1,x]⟩)] (pf3 (hc0 M (by omega)) h0 (hA M (by omega))) (by kernel_rfl)
   |d c k1 v1 acc1 x h=>refine .inl ⟨fun hh=>hPA hh.2.1,c,true,k1,v1,acc1,h,fun N hN=>?_⟩;obtain ⟨M,rfl⟩:∃M,N=M+1:=⟨N-1,by omega⟩;exact callF_of [(16,.p (num c0)),(18,.b false)] [(.ret,⟨[(4,num c)],[.var [.bs 2 0 k1,nat v1],.dead,.row 10 acc1,x]⟩)] (pf3 (hc0 M (by omega)) h0 (hA M (by omega))) (by kernel_rfl)
  rcases hC with ⟨hPC,r,hr,hC⟩|⟨hPC,hC⟩
  ·cases hr with
   |a c k1 v1 acc1 x y h=>
    refine .inl ⟨fun hh=>hPC hh.2.2,c,false,k1,v1,acc1,h,fun N hN=>?_⟩;obtain ⟨M,rfl⟩:∃M,N=M+1:=⟨N-1,by omega⟩;cases f with
    |false=>exact callF_of [(16,.p (num c0)),(18,.b false)] [(.exit 0,⟨[(0,.ptr 0 0 0),(3,.ptr 2 0 0),(21,.sl false 10 (msgsC items)),(22,nat (msgsC items).length),(23,nat (msgsC items).length),(24,boolX false)],ckB false (k+items.length) v (msgsC (acc++items)) (slotC k0 i0 s0 t0 (cellsL l0) (cellsF f0) n0 d0 (msgsC items) (cellsL vals))⟩),(.ret,⟨[(4,num c)],[.var [.bs 1 0 k1,nat v1],.row 10 acc1,x,y]⟩)] (pf4 (hc0 M (by omega)) h0 (hA M (by omega)) (hC M (by omega))) (by kernel_rfl)
    |true=>exact callF_of [(16,.p (num c0)),(18,.b false)] [(.exit 0,⟨[(0,.ptr 0 0 0),(3,.ptr 2 0 0),(21,.sl false 10 (msgsC items)),(22,nat (msgsC items).length),(23,nat (msgsC items).length),(24,boolX false)],ckB true (k+items.length) v (msgsC (acc++items)) (slotC k0 i0 s0 t0 (cellsL l0) (cellsF f0) n0 d0 (msgsC items) (cellsL vals))⟩),(.ret,⟨[(4,num c)],[.var [.bs 1 0 k1,nat v1],.row 10 acc1,x,y]⟩)] (pf4 (hc0 M (by omega)) h0 (hA M (by omega)) (hC M (by omega))) (by kernel_rfl)
   |b c k1 v1 acc1 x y h=>
    refine .inl ⟨fun hh=>hPC hh.2.2,c,true,k1,v1,acc1,h,fun N hN=>?_⟩;obtain ⟨M,rfl⟩:∃M,N=M+1:=⟨N-1,by omega⟩;cases f with
    |false=>exact callF_of [(16,.p (num c0)),(18,.b false)] [(.exit 0,⟨[(0,.ptr 0 0 0),(3,.ptr 2 0 0),(21,.sl false 10 (msgsC items)),(22,nat (msgsC items).length),(23,nat (msgsC items).length),(24,boolX false)],ckB false (k+items.length) v (msgsC (acc++items)) (slotC k0 i0 s0 t0 (cellsL l0) (cellsF f0) n0 d0 (msgsC items) (cellsL vals))⟩),(.ret,⟨[(4,num c)],[.var [.bs 3 0 k1,nat v1],.dead,x,.row 10 acc1,y]⟩)] (pf4 (hc0 M (by omega)) h0 (hA M (by omega)) (hC M (by omega))) (by kernel_rfl)
    |true=>exact callF_of [(16,.p (num c0)),(18,.b false)] [(.exit 0,⟨[(0,.ptr 0 0 0),(3,.ptr 2 0 0),(21,.sl false 10 (msgsC items)),(22,nat (msgsC items).length),(23,nat (msgsC items).length),(24,boolX false)],ckB true (k+items.length) v (msgsC (acc++items)) (slotC k0 i0 s0 t0 (cellsL l0) (cellsF f0) n0 d0 (msgsC items) (cellsL vals))⟩),(.ret,⟨[(4,num c)],[.var [.bs 3 0 k1,nat v1],.dead,x,.row 10 acc1,y]⟩)] (pf4 (hc0 M (by omega)) h0 (hA M (by omega)) (hC M (by omega))) (by kernel_rfl)
   |c c k1 v1 acc1 x h=>
    refine .inl ⟨fun hh=>hPC hh.2.2,c,false,k1,v1,acc1,h,fun N hN=>?_⟩;obtain ⟨M,rfl⟩:∃M,N=M+1:=⟨N-1,by omega⟩;cases f with
    |false=>exact callF_of [(16,.p (num c0)),(18,.b false)] [(.exit 0,⟨[(0,.ptr 0 0 0),(3,.ptr 2 0 0),(21,.sl false 10 (msgsC items)),(22,nat (msgsC items).length),(23,nat (msgsC items).length),(24,boolX false)],ckB false (k+items.length) v (msgsC (acc++items)) (slotC k0 i0 s0 t0 (cellsL l0) (cellsF f0) n0 d0 (msgsC items) (cellsL vals))⟩),(.ret,⟨[(4,num c)],[.var [.bs 1 0 k1,nat v1],.row 10 acc1,x]⟩)] (pf4 (hc0 M (by omega)) h0 (hA M (by omega)) (hC M (by omega))) (by kernel_rfl)
    |true=>exact callF_of [(16,.p (num c0)),(18,.b false)] [(.exit 0,⟨[(0,.ptr 0 0 0),(3,.ptr 2 0 0),(21,.sl false 10 (msgsC items)),(22,nat (msgsC items).length),(23,nat (msgsC items).length),(24,boolX false)],ckB true (k+items.length) v (msgsC (acc++items)) (slotC k0 i0 s0 t0 (cellsL l0) (cellsF f0) n0 d0 (msgsC items) (cellsL vals))⟩),(.ret,⟨[(4,num c)],[.var [.bs 1 0 k1,nat v1],.row 10 acc1,x]⟩)] (pf4 (hc0 M (by omega)) h0 (hA M (by omega)) (hC M (by omega))) (by kernel_rfl)
   |d c k1 v1 acc1 x h=>
    refine .inl ⟨fun hh=>hPC hh.2.2,c,true,k1,v1,acc1,h,fun N hN=>?_⟩;obtain ⟨M,rfl⟩:∃M,N=M+1:=⟨N-1,by omega⟩;cases f with
    |false=>exact callF_of [(16,.p (num c0)),(18,.b false)] [(.exit 0,⟨[(0,.ptr 0 0 0),(3,.ptr 2 0 0),(21,.sl false 10 (msgsC items)),(22,nat (msgsC items).length),(23,nat (msgsC items).length),(24,boolX false)],ckB false (k+items.length) v (msgsC (acc++items)) (slotC k0 i0 s0 t0 (cellsL l0) (cellsF f0) n0 d0 (msgsC items) (cellsL vals))⟩),(.ret,⟨[(4,num c)],[.var [.bs 2 0 k1,nat v1],.dead,.row 10 acc1,x]⟩)] (pf4 (hc0 M (by omega)) h0 (hA M (by omega)) (hC M (by omega))) (by kernel_rfl)
    |true=>exact callF_of [(16,.p (num c0)),(18,.b false)] [(.exit 0,⟨[(0,.ptr 0 0 0),(3,.ptr 2 0 0),(21,.sl false 10 (msgsC items)),(22,nat (msgsC items).length),(23,nat (msgsC items).length),(24,boolX false)],ckB true (k+items.length) v (msgsC (acc++items)) (slotC k0 i0 s0 t0 (cellsL l0) (cellsF f0) n0 d0 (msgsC items) (cellsL vals))⟩),(.ret,⟨[(4,num c)],[.var [.bs 2 0 k1,nat v1],.dead,.row 10 acc1,x]⟩)] (pf4 (hc0 M (by omega)) h0 (hA M (by omega)) (hC M (by omega))) (by kernel_rfl)
  refine .inr ⟨⟨hz0,hPA,hPC⟩,?_⟩;intro N hN;obtain ⟨M,rfl⟩:∃M,N=M+1:=⟨N-1,by omega⟩;cases f with
  |false=>exact callF_of [(16,.p (num c0)),(18,.b false)] [(.exit 0,⟨[(0,.ptr 0 0 0),(3,.ptr 2 0 0),(21,.sl false 10 (msgsC items)),(22,nat (msgsC items).length),(23,nat (msgsC items).length),(24,boolX false)],ckB false (k+items.length) v (msgsC (acc++items)) (slotC k0 i0 s0 t0 (cellsL l0) (cellsF f0) n0 d0 (msgsC items) (cellsL vals))⟩),(.exit 2,cvFin false (cellsL vals) (cellsL vals).length (cellsL vals).length (k+items.length) (v+(cellsL vals).length) (msgsC (acc++items)))] (pf4 (hc0 M (by omega)) h0 (hA M (by omega)) (hC M (by omega))) (by kernel_rfl)
  |true=>exact callF_of [(16,.p (num c0)),(18,.b false)] [(.exit 0,⟨[(0,.ptr 0 0 0),(3,.ptr 2 0 0),(21,.sl false 10 (msgsC items)),(22,nat (msgsC items).length),(23,nat (msgsC items).length),(24,boolX false)],ckB true (k+items.length) v (msgsC (acc++items)) (slotC k0 i0 s0 t0 (cellsL l0) (cellsF f0) n0 d0 (msgsC items) (cellsL vals))⟩),(.exit 2,cvFin true (cellsL vals) (cellsL vals).length (cellsL vals).length (k+items.length) (v+(cellsL vals).length) (msgsC (acc++items)))] (pf4 (hc0 M (by omega)) h0 (hA M (by omega)) (hC M (by omega))) (by kernel_rfl)
def PscB (ce:Int)(z:Bool)(cc:Int)(sp:Prop):Prop:=
 (if !(ce==0) then z else true)=true/\(if cc==0 then false else if cc==-1 then false else true)=true/\sp
def RdP (acc:List Msg)(k v:Nat)(x:Slt)(cc:Int):Prop:=PscB (chkV x.key) (nullV x.key) cc (SlP acc k v x)
theorem X1a:((1:Int)==0)=false:=by decide
theorem X1b:((1:Int)==-1)=false:=by decide
section
variable {ce cc:Int} {z:Bool} {sp:Prop}
theorem nS (h:¬sp):¬PscB ce z cc sp:=fun hh=>h hh.2.2
theorem nK (h:(!(ce==0))=true):¬PscB ce false cc sp:=fun hh=>by have:=hh.1;rw [h] at this;cases this
theorem nE (h:(cc==0)=true):¬PscB ce z cc sp:=fun hh=>by have:=hh.2.1;rw [h] at this;cases this
theorem nL (h:(cc==-1)=true):¬PscB ce z cc sp:=fun hh=>by have:=hh.2.1;rw [h] at this;split at this<;>cases this
theorem yA (h:(!(ce==0))=true)(h2:(cc==0)=false)(h3:(cc==-1)=false)(hs:sp):PscB ce true cc sp:=⟨by rw [h];rfl,by rw [h2,h3];rfl,hs⟩
theorem yB (h:(!(ce==0))=false)(h2:(cc==0)=false)(h3:(cc==-1)=false)(hs:sp):PscB ce z cc sp:=⟨by rw [h];rfl,by rw [h2,h3];rfl,hs⟩
end
def XcRound (P:Prop)(slots:qaV)(n j k v:Nat)(acc acc':qaV)(a b:Int)(k' v':Nat):Prop:=
 (¬P/\∃r,(∃(c:Int) (bx:List Bx),c≠0/\r=⟨[(2,num c)],bx⟩)/\∀M,190050<=M->run (callF tab ext M) 0 M (loopAt 101 0) (scSt slots slots n j k v acc a b)=some (.ret,r))\/
 (P/\∃υ,canon 0 υ=some (scSt slots slots n (j+1) k' v' acc' a b)/\∀M,190050<=M->run (callF tab ext M) 0 M (loopAt 101 0) (scSt slots slots n j k v acc a b)=some (.norm,υ))
theorem xc_round (slots:qaV)(n j k v:Nat)(acc:List Msg)(a b:Int)(x:Slt)(hx:x.ok)(hacc:∀o,o∈acc->o.ok)(hk:k=acc.length)(hl:acc.length+x.items.length<=60000)(hv:v<=900000)(hj:j<n)(hn:n<=60000)(hg:slots[j]?=some x.cells)
  (cc0:Int) (hcc0:j=0->cc0=1) (hprev:∀i,j=i+1->∃p:Slt,p.ok/\slots[i]?=some p.cells/\cc0=cmpV x.key p.key):
  XcRound (RdP acc k v x cc0) slots n j k v (msgsC acc) (msgsC (acc++x.items)) a b (k+x.items.length) (v+(cellsL x.vals).length):=by
 have hce:∀M,120040<=M->_:=fun M hM=>chkV_at hx.key M (by have:=hx.key;unfold Val.ok at this;omega);have hz:∀N,120040<=N->Gam.pureD (callF tab ext N) 159 [.agg x.key.cells]=some (boolX (nullV x.key)):=fun N hN=>null_at x.key N (by omega);have hcmp:∀(p:Slt) N,190050<=N->Gam.pureD (callF tab ext N) 113 [.agg x.key.cells,.agg p.key.cells]=some (num (cmpV x.key p.key)):=fun p N hN=>cmp_val x.key.size N x.key p.key (Nat.le_refl _) (by have:=hx.key;unfold Val.ok at this;omega) (by have:=hx.key;unfold Val.ok at this;omega);have hs:=slot_ex x hx acc k v hacc hk hl hv;have hlt:=lt_nat hj;unfold RdP;generalize chkV x.key=ce at hce ⊢;generalize SlP acc k v x=sp at hs ⊢;generalize nullV x.key=z at hz ⊢;obtain ⟨⟨k0,i0,s0,t0,l0,f0⟩,n0,d0,items,vals⟩:=x;dsimp only at hce hz hcmp hs hl ⊢;unfold XcRound;cases j with
 |zero=>
  have hc1:=hcc0 rfl;subst hc1;cases h1:(!(ce==0)) with
  |true=>
   cases z with
   |true=>
    rcases hs with ⟨hsp,c,f,k1,v1,acc1,hc,hs⟩|⟨hsp,hs⟩
    ·have hne:=ne_true hc;cases f with
     |false=>exact .inl ⟨(by first|exact nS hsp|exact nK h1|exact nE h2|exact nE h4|exact nL h3|exact nL h5),⟨[(2,num c)],[.var [num a,num b,.sl false 10 slots],.var [.bs 2 0 k1,nat v1],.row 10 acc1,.var (slotC k0 i0 s0 t0 (cellsL l0) (cellsF f0) n0 d0 (msgsC items) (cellsL vals))]⟩,⟨_,_,(by first|exact hc|decide|(intro h0;rw [h0] at h1;cases h1)),rfl⟩,fun M hM=>run_of [(25,.b true),(27,.e (slotC k0 i0 s0 t0 (cellsL l0) (cellsF f0) n0 d0 (msgsC items) (cellsL vals))),(31,.p (num ce)),(33,.b true),(37,.p (boolX true)),(42,.b false),(58,.r (num c) (cvB false k1 v1 acc1)),(60,.b true)] [] (pf8 hlt hg (hce M (by omega)) h1 (hz M (by omega)) zero_nat (hs M (by omega)) hne) (lo':=[]) (by kernel_rfl)⟩
     |true=>exact .inl ⟨(by first|exact nS hsp|exact nK h1|exact nE h2|exact nE h4|exact nL h3|exact nL h5),⟨[(2,num c)],[.var [num a,num b,.sl false 10 slots],.var [.bs 4 0 k1,nat v1],.dead,.var (slotC k0 i0 s0 t0 (cellsL l0) (cellsF f0) n0 d0 (msgsC items) (cellsL vals)),.row 10 acc1]⟩,⟨_,_,(by first|exact hc|decide|(intro h0;rw [h0] at h1;cases h1)),rfl⟩,fun M hM=>run_of [(25,.b true),(27,.e (slotC k0 i0 s0 t0 (cellsL l0) (cellsF f0) n0 d0 (msgsC items) (cellsL vals))),(31,.p (num ce)),(33,.b true),(37,.p (boolX true)),(42,.b false),(58,.r (num c) (cvB true k1 v1 acc1)),(60,.b true)] [] (pf8 hlt hg (hce M (by omega)) h1 (hz M (by omega)) zero_nat (hs M (by omega)) hne) (lo':=[]) (by kernel_rfl)⟩
    generalize hf:decide (0<items.length)=f at hs;cases f with
    |false=>exact .inr ⟨(by first|exact yA h1 h2 h3 hsp|exact yB h1 h4 h5 hsp|exact yA h1 X1a X1b hsp|exact yB h1 X1a X1b hsp),⟨[(1,.ptr 0 0 0),(4,.ptr 1 0 0),(22,.sl false 10 slots),(23,nat n),(24,nat (0+1))],[.var [num a,num b,.sl false 10 slots],.var [.bs 2 0 (k+items.length),nat (v+(cellsL vals).length)],.row 10 (msgsC (acc++items)),.var (slotC k0 i0 s0 t0 (cellsL l0) (cellsF f0) n0 d0 (msgsC items) (cellsL vals))]⟩,by kernel_rfl,fun M hM=>run_of [(25,.b true),(27,.e (slotC k0 i0 s0 t0 (cellsL l0) (cellsF f0) n0 d0 (msgsC items) (cellsL vals))),(31,.p (num ce)),(33,.b true),(37,.p (boolX true)),(42,.b false),(58,.r (num 0) (cvB false (k+items.length) (v+(cellsL vals).length) (msgsC (acc++items)))),(62,.i (Int.ofNat (0+1)))] [] (pf8 hlt hg (hce M (by omega)) h1 (hz M (by omega)) zero_nat (hs M (by omega)) (next_nat (j:=0) (by omega))) (lo':=[]) (by kernel_rfl)⟩
    |true=>exact .inr ⟨(by first|exact yA h1 h2 h3 hsp|exact yB h1 h4 h5 hsp|exact yA h1 X1a X1b hsp|exact yB h1 X1a X1b hsp),⟨[(1,.ptr 0 0 0),(4,.ptr 1 0 0),(22,.sl false 10 slots),(23,nat n),(24,nat (0+1))],[.var [num a,num b,.sl false 10 slots],.var [.bs 4 0 (k+items.length),nat (v+(cellsL vals).length)],.dead,.var (slotC k0 i0 s0 t0 (cellsL l0) (cellsF f0) n0 d0 (msgsC items) (cellsL vals)),.row 10 (msgsC (acc++items))]⟩,by kernel_rfl,fun M hM=>run_of [(25,.b true),(27,.e (slotC k0 i0 s0 t0 (cellsL l0) (cellsF f0) n0 d0 (msgsC items) (cellsL vals))),(31,.p (num ce)),(33,.b true),(37,.p (boolX true)),(42,.b false),(58,.r (num 0) (cvB true (k+items.length) (v+(cellsL vals).length) (msgsC (acc++items)))),(62,.i (Int.ofNat (0+1)))] [] (pf8 hlt hg (hce M (by omega)) h1 (hz M (by omega)) zero_nat (hs M (by omega)) (next_nat (j:=0) (by omega))) (lo':=[]) (by kernel_rfl)⟩
   |false=>exact .inl ⟨(by first|exact nS hsp|exact nK h1|exact nE h2|exact nE h4|exact nL h3|exact nL h5),⟨[(2,num ce)],[.var [num a,num b,.sl false 10 slots],.var [.bs 2 0 k,nat v],.row 10 (msgsC acc),.var (slotC k0 i0 s0 t0 (cellsL l0) (cellsF f0) n0 d0 (msgsC items) (cellsL vals))]⟩,⟨_,_,(by first|exact hc|decide|(intro h0;rw [h0] at h1;cases h1)),rfl⟩,fun M hM=>run_of [(25,.b true),(27,.e (slotC k0 i0 s0 t0 (cellsL l0) (cellsF f0) n0 d0 (msgsC items) (cellsL vals))),(31,.p (num ce)),(33,.b true),(37,.p (boolX false))] [] (pf5 hlt hg (hce M (by omega)) h1 (hz M (by omega))) (lo':=[]) (by kernel_rfl)⟩
  |false=>
   rcases hs with ⟨hsp,c,f,k1,v1,acc1,hc,hs⟩|⟨hsp,hs⟩
   ·have hne:=ne_true hc;cases f with
    |false=>exact .inl ⟨(by first|exact nS hsp|exact nK h1|exact nE h2|exact nE h4|exact nL h3|exact nL h5),⟨[(2,num c)],[.var [num a,num b,.sl false 10 slots],.var [.bs 2 0 k1,nat v1],.row 10 acc1,.var (slotC k0 i0 s0 t0 (cellsL l0) (cellsF f0) n0 d0 (msgsC items) (cellsL vals))]⟩,⟨_,_,(by first|exact hc|decide|(intro h0;rw [h0] at h1;cases h1)),rfl⟩,fun M hM=>run_of [(25,.b true),(27,.e (slotC k0 i0 s0 t0 (cellsL l0) (cellsF f0) n0 d0 (msgsC items) (cellsL vals))),(31,.p (num ce)),(33,.b false),(42,.b false),(58,.r (num c) (cvB false k1 v1 acc1)),(60,.b true)] [] (pf7 hlt hg (hce M (by omega)) h1 zero_nat (hs M (by omega)) hne) (lo':=[]) (by kernel_rfl)⟩
    |true=>exact .inl ⟨(by first|exact nS hsp|exact nK h1|exact nE h2|exact nE h4|exact nL h3|exact nL h5),⟨[(2,num c)],[.var [num a,num b,.sl false 10 slots],.var [.bs 4 0 k1,nat v1],.dead,.var (slotC k0 i0 s0 t0 (cellsL l0) (cellsF f0) n0 d0 (msgsC items) (cellsL vals)),.row 10 acc1]⟩,⟨_,_,(by first|exact hc|decide|(intro h0;rw [h0] at h1;cases h1)),rfl⟩,fun M hM=>run_of [(25,.b true),(27,.e (slotC k0 i0 s0 t0 (cellsL l0) (cellsF f0) n0 d0 (msgsC items) (cellsL vals))),(31,.p (num ce)),(33,.b false),(42,.b false),(58,.r (num c) (cvB true k1 v1 acc1)),(60,.b true)] [] (pf7 hlt hg (hce M (by omega)) h1 zero_nat (hs M (by omega)) hne) (lo':=[]) (by kernel_rfl)⟩
   generalize hf:decide (0<items.length)=f at hs;cases f with
   |false=>exact .inr ⟨(by first|exact yA h1 h2 h3 hsp|exact yB h1 h4 h5 hsp|exact yA h1 X1a X1b hsp|exact yB h1 X1a X1b hsp),⟨[(1,.ptr 0 0 0),(4,.ptr 1 0 0),(22,.sl false 10 slots),(23,nat n),(24,nat (0+1))],[.var [num a,num b,.sl false 10 slots],.var [.bs 2 0 (k+items.length),nat (v+(cellsL vals).length)],.row 10 (msgsC (acc++items)),.var (slotC k0 i0 s0 t0 (cellsL l0) (cellsF f0) n0 d0 (msgsC items) (cellsL vals))]⟩,by kernel_rfl,fun M hM=>run_of [(25,.b true),(27,.e (slotC k0 i0 s0 t0 (cellsL l0) (cellsF f0) n0 d0 (msgsC items) (cellsL vals))),(31,.p (num ce)),(33,.b false),(42,.b false),(58,.r (num 0) (cvB false (k+items.length) (v+(cellsL vals).length) (msgsC (acc++items)))),(62,.i (Int.ofNat (0+1)))] [] (pf7 hlt hg (hce M (by omega)) h1 zero_nat (hs M (by omega)) (next_nat (j:=0) (by omega))) (lo':=[]) (by kernel_rfl)⟩
   |true=>exact .inr ⟨(by first|exact yA h1 h2 h3 hsp|exact yB h1 h4 h5 hsp|exact yA h1 X1a X1b hsp|exact yB h1 X1a X1b hsp),⟨[(1,.ptr 0 0 0),(4,.ptr 1 0 0),(22,.sl false 10 slots),(23,nat n),(24,nat (0+1))],[.var [num a,num b,.sl false 10 slots],.var [.bs 4 0 (k+items.length),nat (v+(cellsL vals).length)],.dead,.var (slotC k0 i0 s0 t0 (cellsL l0) (cellsF f0) n0 d0 (msgsC items) (cellsL vals)),.row 10 (msgsC (acc++items))]⟩,by kernel_rfl,fun M hM=>run_of [(25,.b true),(27,.e (slotC k0 i0 s0 t0 (cellsL l0) (cellsF f0) n0 d0 (msgsC items) (cellsL vals))),(31,.p (num ce)),(33,.b false),(42,.b false),(58,.r (num 0) (cvB true (k+items.length) (v+(cellsL vals).length) (msgsC (acc++items)))),(62,.i (Int.ofNat (0+1)))] [] (pf7 hlt hg (hce M (by omega)) h1 zero_nat (hs M (by omega)) (next_nat (j:=0) (by omega))) (lo':=[]) (by kernel_rfl)⟩
 |succ j=>
  obtain ⟨p,hpo,hp,hc1⟩:=hprev j rfl;have hc1:=hc1.symm;have hcc:=hcmp p;generalize cmpV (Val.mk k0 i0 s0 t0 l0 f0) p.key=cc at hcc hc1;subst hc1;obtain ⟨⟨p0,p1,p2,p3,p4,p5⟩,p6,p7,p8,p9⟩:=p;cases h1:(!(ce==0)) with
  |true=>
   cases z with
   |true=>
    cases h2:(cc==0) with
    |true=>exact .inl ⟨(by first|exact nS hsp|exact nK h1|exact nE h2|exact nE h4|exact nL h3|exact nL h5),⟨[(2,num 7)],[.var [num a,num b,.sl false 10 slots],.var [.bs 2 0 k,nat v],.row 10 (msgsC acc),.var (slotC k0 i0 s0 t0 (cellsL l0) (cellsF f0) n0 d0 (msgsC items) (cellsL vals))]⟩,⟨_,_,(by first|exact hc|decide|(intro h0;rw [h0] at h1;cases h1)),rfl⟩,fun M hM=>run_of [(25,.b true),(27,.e (slotC k0 i0 s0 t0 (cellsL l0) (cellsF f0) n0 d0 (msgsC items) (cellsL vals))),(31,.p (num ce)),(33,.b true),(37,.p (boolX true)),(42,.b true),(48,.i (Int.ofNat j)),(49,.e (slotC p0 p1 p2 p3 (cellsL p4) (cellsF p5) p6 p7 (msgsC p8) (cellsL p9))),(52,.p (num cc)),(54,.b true)] [] (pf10 hlt hg (hce M (by omega)) h1 (hz M (by omega)) (pos_nat (j:=j)) (pred_nat (j:=j) (by omega)) hp (hcc M hM) h2) (lo':=[]) (by kernel_rfl)⟩
    |false=>
     cases h3:(cc==-1) with
     |true=>exact .inl ⟨(by first|exact nS hsp|exact nK h1|exact nE h2|exact nE h4|exact nL h3|exact nL h5),⟨[(2,num 24)],[.var [num a,num b,.sl false 10 slots],.var [.bs 2 0 k,nat v],.row 10 (msgsC acc),.var (slotC k0 i0 s0 t0 (cellsL l0) (cellsF f0) n0 d0 (msgsC items) (cellsL vals))]⟩,⟨_,_,(by first|exact hc|decide|(intro h0;rw [h0] at h1;cases h1)),rfl⟩,fun M hM=>run_of [(25,.b true),(27,.e (slotC k0 i0 s0 t0 (cellsL l0) (cellsF f0) n0 d0 (msgsC items) (cellsL vals))),(31,.p (num ce)),(33,.b true),(37,.p (boolX true)),(42,.b true),(48,.i (Int.ofNat j)),(49,.e (slotC p0 p1 p2 p3 (cellsL p4) (cellsF p5) p6 p7 (msgsC p8) (cellsL p9))),(52,.p (num cc)),(54,.b false),(56,.b true)] [] (pf11 hlt hg (hce M (by omega)) h1 (hz M (by omega)) (pos_nat (j:=j)) (pred_nat (j:=j) (by omega)) hp (hcc M hM) h2 h3) (lo':=[]) (by kernel_rfl)⟩
     |false=>
      rcases hs with ⟨hsp,c,f,k1,v1,acc1,hc,hs⟩|⟨hsp,hs⟩
      ·have hne:=ne_true hc;cases f with
       |false=>exact .inl ⟨(by first|exact nS hsp|exact nK h1|exact nE h2|exact nE h4|exact nL h3|exact nL h5),⟨[(2,num c)],[.var [num a,num b,.sl false 10 slots],.var [.bs 2 0 k1,nat v1],.row 10 acc1,.var (slotC k0 i0 s0 t0 (cellsL l0) (cellsF f0) n0 d0 (msgsC items) (cellsL vals))]⟩,⟨_,_,(by first|exact hc|decide|(intro h0;rw [h0] at h1;cases h1)),rfl⟩,fun M hM=>run_of [(25,.b true),(27,.e (slotC k0 i0 s0 t0 (cellsL l0) (cellsF f0) n0 d0 (msgsC items) (cellsL vals))),(31,.p (num ce)),(33,.b true),(37,.p (boolX true)),(42,.b true),(48,.i (Int.ofNat j)),(49,.e (slotC p0 p1 p2 p3 (cellsL p4) (cellsF p5) p6 p7 (msgsC p8) (cellsL p9))),(52,.p (num cc)),(54,.b false),(56,.b false),(58,.r (num c) (cvB false k1 v1 acc1)),(60,.b true)] [] (pf13 hlt hg (hce M (by omega)) h1 (hz M (by omega)) (pos_nat (j:=j)) (pred_nat (j:=j) (by omega)) hp (hcc M hM) h2 h3 (hs M (by omega)) hne) (lo':=[]) (by kernel_rfl)⟩
       |true=>exact .inl ⟨(by first|exact nS hsp|exact nK h1|exact nE h2|exact nE h4|exact nL h3|exact nL h5),⟨[(2,num c)],[.var [num a,num b,.sl false 10 slots],.var [.bs 4 0 k1,nat v1],.dead,.var (slotC k0 i0 s0 t0 (cellsL l0) (cellsF f0) n0 d0 (msgsC items) (cellsL vals)),.row 10 acc1]⟩,⟨_,_,(by first|exact hc|decide|(intro h0;rw [h0] at h1;cases h1)),rfl⟩,fun M hM=>run_of [(25,.b true),(27,.e (slotC k0 i0 s0 t0 (cellsL l0) (cellsF f0) n0 d0 (msgsC items) (cellsL vals))),(31,.p (num ce)),(33,.b true),(37,.p (boolX true)),(42,.b true),(48,.i (Int.ofNat j)),(49,.e (slotC p0 p1 p2 p3 (cellsL p4) (cellsF p5) p6 p7 (msgsC p8) (cellsL p9))),(52,.p (num cc)),(54,.b false),(56,.b false),(58,.r (num c) (cvB true k1 v1 acc1)),(60,.b true)] [] (pf13 hlt hg (hce M (by omega)) h1 (hz M (by omega)) (pos_nat (j:=j)) (pred_nat (j:=j) (by omega)) hp (hcc M hM) h2 h3 (hs M (by omega)) hne) (lo':=[]) (by kernel_rfl)⟩
      generalize hf:decide (0<items.length)=f at hs;cases f with
      |false=>exact .inr ⟨(by first|exact yA h1 h2 h3 hsp|exact yB h1 h4 h5 hsp|exact yA h1 X1a X1b hsp|exact yB h1 X1a X1b hsp),⟨[(1,.ptr 0 0 0),(4,.ptr 1 0 0),(22,.sl false 10 slots),(23,nat n),(24,nat ((j+1)+1))],[.var [num a,num b,.sl false 10 slots],.var [.bs 2 0 (k+items.length),nat (v+(cellsL vals).length)],.row 10 (msgsC (acc++items)),.var (slotC k0 i0 s0 t0 (cellsL l0) (cellsF f0) n0 d0 (msgsC items) (cellsL vals))]⟩,by kernel_rfl,fun M hM=>run_of [(25,.b true),(27,.e (slotC k0 i0 s0 t0 (cellsL l0) (cellsF f0) n0 d0 (msgsC items) (cellsL vals))),(31,.p (num ce)),(33,.b true),(37,.p (boolX true)),(42,.b true),(48,.i (Int.ofNat j)),(49,.e (slotC p0 p1 p2 p3 (cellsL p4) (cellsF p5) p6 p7 (msgsC p8) (cellsL p9))),(52,.p (num cc)),(54,.b false),(56,.b false),(58,.r (num 0) (cvB false (k+items.length) (v+(cellsL vals).length) (msgsC (acc++items)))),(62,.i (Int.ofNat ((j+1)+1)))] [] (pf13 hlt hg (hce M (by omega)) h1 (hz M (by omega)) (pos_nat (j:=j)) (pred_nat (j:=j) (by omega)) hp (hcc M hM) h2 h3 (hs M (by omega)) (next_nat (j:=(j+1)) (by omega))) (lo':=[]) (by kernel_rfl)⟩
      |true=>exact .inr ⟨(by first|exact yA h1 h2 h3 hsp|exact yB h1 h4 h5 hsp|exact yA h1 X1a X1b hsp|exact yB h1 X1a X1b hsp),⟨[(1,.ptr 0 0 0),(4,.ptr 1 0 0),(22,.sl false 10 slots),(23,nat n),(24,nat ((j+1)+1))],[.var [num a,num b,.sl false 10 slots],.var [.bs 4 0 (k+items.length),nat (v+(cellsL vals).length)],.dead,.var (slotC k0 i0 s0 t0 (cellsL l0) (cellsF f0) n0 d0 (msgsC items) (cellsL vals)),.row 10 (msgsC (acc++items))]⟩,by kernel_rfl,fun M hM=>run_of [(25,.b true),(27,.e (slotC k0 i0 s0 t0 (cellsL l0) (cellsF f0) n0 d0 (msgsC items) (cellsL vals))),(31,.p (num ce)),(33,.b true),(37,.p (boolX true)),(42,.b true),(48,.i (Int.ofNat j)),(49,.e (slotC p0 p1 p2 p3 (cellsL p4) (cellsF p5) p6 p7 (msgsC p8) (cellsL p9))),(52,.p (num cc)),(54,.b false),(56,.b false),(58,.r (num 0) (cvB true (k+items.length) (v+(cellsL vals).length) (msgsC (acc++items)))),(62,.i (Int.ofNat ((j+1)+1)))] [] (pf13 hlt hg (hce M (by omega)) h1 (hz M (by omega)) (pos_nat (j:=j)) (pred_nat (j:=j) (by omega)) hp (hcc M hM) h2 h3 (hs M (by omega)) (next_nat (j:=(j+1)) (by omega))) (lo':=[]) (by kernel_rfl)⟩
   |false=>exact .inl ⟨(by first|exact nS hsp|exact nK h1|exact nE h2|exact nE h4|exact nL h3|exact nL h5),⟨[(2,num ce)],[.var [num a,num b,.sl false 10 slots],.var [.bs 2 0 k,nat v],.row 10 (msgsC acc),.var (slotC k0 i0 s0 t0 (cellsL l0) (cellsF f0) n0 d0 (msgsC items) (cellsL vals))]⟩,⟨_,_,(by first|exact hc|decide|(intro h0;rw [h0] at h1;cases h1)),rfl⟩,fun M hM=>run_of [(25,.b true),(27,.e (slotC k0 i0 s0 t0 (cellsL l0) (cellsF f0) n0 d0 (msgsC items) (cellsL vals))),(31,.p (num ce)),(33,.b true),(37,.p (boolX false))] [] (pf5 hlt hg (hce M (by omega)) h1 (hz M (by omega))) (lo':=[]) (by kernel_rfl)⟩
  |false=>
   cases h4:(cc==0) with
   |true=>exact .inl ⟨(by first|exact nS hsp|exact nK h1|exact nE h2|exact nE h4|exact nL h3|exact nL h5),⟨[(2,num 7)],[.var [num a,num b,.sl false 10 slots],.var [.bs 2 0 k,nat v],.row 10 (msgsC acc),.var (slotC k0 i0 s0 t0 (cellsL l0) (cellsF f0) n0 d0 (msgsC items) (cellsL vals))]⟩,⟨_,_,(by first|exact hc|decide|(intro h0;rw [h0] at h1;cases h1)),rfl⟩,fun M hM=>run_of [(25,.b true),(27,.e (slotC k0 i0 s0 t0 (cellsL l0) (cellsF f0) n0 d0 (msgsC items) (cellsL vals))),(31,.p (num ce)),(33,.b false),(42,.b true),(48,.i (Int.ofNat j)),(49,.e (slotC p0 p1 p2 p3 (cellsL p4) (cellsF p5) p6 p7 (msgsC p8) (cellsL p9))),(52,.p (num cc)),(54,.b true)] [] (pf9 hlt hg (hce M (by omega)) h1 (pos_nat (j:=j)) (pred_nat (j:=j) (by omega)) hp (hcc M hM) h4) (lo':=[]) (by kernel_rfl)⟩
   |false=>
    cases h5:(cc==-1) with
    |true=>exact .inl ⟨(by first|exact nS hsp|exact nK h1|exact nE h2|exact nE h4|exact nL h3|exact nL h5),⟨[(2,num 24)],[.var [num a,num b,.sl false 10 slots],.var [.bs 2 0 k,nat v],.row 10 (msgsC acc),.var (slotC k0 i0 s0 t0 (cellsL l0) (cellsF f0) n0 d0 (msgsC items) (cellsL vals))]⟩,⟨_,_,(by first|exact hc|decide|(intro h0;rw [h0] at h1;cases h1)),rfl⟩,fun M hM=>run_of [(25,.b true),(27,.e (slotC k0 i0 s0 t0 (cellsL l0) (cellsF f0) n0 d0 (msgsC items) (cellsL vals))),(31,.p (num ce)),(33,.b false),(42,.b true),(48,.i (Int.ofNat j)),(49,.e (slotC p0 p1 p2 p3 (cellsL p4) (cellsF p5) p6 p7 (msgsC p8) (cellsL p9))),(52,.p (num cc)),(54,.b false),(56,.b true)] [] (pf10 hlt hg (hce M (by omega)) h1 (pos_nat (j:=j)) (pred_nat (j:=j) (by omega)) hp (hcc M hM) h4 h5) (lo':=[]) (by kernel_rfl)⟩
    |false=>
     rcases hs with ⟨hsp,c,f,k1,v1,acc1,hc,hs⟩|⟨hsp,hs⟩
     ·have hne:=ne_true hc;cases f with
      |false=>exact .inl ⟨(by first|exact nS hsp|exact nK h1|exact nE h2|exact nE h4|exact nL h3|exact nL h5),⟨[(2,num c)],[.var [num a,num b,.sl false 10 slots],.var [.bs 2 0 k1,nat v1],.row 10 acc1,.var (slotC k0 i0 s0 t0 (cellsL l0) (cellsF f0) n0 d0 (msgsC items) (cellsL vals))]⟩,⟨_,_,(by first|exact hc|decide|(intro h0;rw [h0] at h1;cases h1)),rfl⟩,fun M hM=>run_of [(25,.b true),(27,.e (slotC k0 i0 s0 t0 (cellsL l0) (cellsF f0) n0 d0 (msgsC items) (cellsL vals))),(31,.p (num ce)),(33,.b false),(42,.b true),(48,.i (Int.ofNat j)),(49,.e (slotC p0 p1 p2 p3 (cellsL p4) (cellsF p5) p6 p7 (msgsC p8) (cellsL p9))),(52,.p (num cc)),(54,.b false),(56,.b false),(58,.r (num c) (cvB false k1 v1 acc1)),(60,.b true)] [] (pf12 hlt hg (hce M (by omega)) h1 (pos_nat (j:=j)) (pred_nat (j:=j) (by omega)) hp (hcc M hM) h4 h5 (hs M (by omega)) hne) (lo':=[]) (by kernel_rfl)⟩
      |true=>exact .inl ⟨(by first|exact nS hsp|exact nK h1|exact nE h2|exact nE h4|exact nL h3|exact nL h5),⟨[(2,num c)],[.var [num a,num b,.sl false 10 slots],.var [.bs 4 0 k1,nat v1],.dead,.var (slotC k0 i0 s0 t0 (cellsL l0) (cellsF f0) n0 d0 (msgsC items) (cellsL vals)),.row 10 acc1]⟩,⟨_,_,(by first|exact hc|decide|(intro h0;rw [h0] at h1;cases h1)),rfl⟩,fun M hM=>run_of [(25,.b true),(27,.e (slotC k0 i0 s0 t0 (cellsL l0) (cellsF f0) n0 d0 (msgsC items) (cellsL vals))),(31,.p (num ce)),(33,.b false),(42,.b true),(48,.i (Int.ofNat j)),(49,.e (slotC p0 p1 p2 p3 (cellsL p4) (cellsF p5) p6 p7 (msgsC p8) (cellsL p9))),(52,.p (num cc)),(54,.b false),(56,.b false),(58,.r (num c) (cvB true k1 v1 acc1)),(60,.b true)] [] (pf12 hlt hg (hce M (by omega)) h1 (pos_nat (j:=j)) (pred_nat (j:=j) (by omega)) hp (hcc M hM) h4 h5 (hs M (by omega)) hne) (lo':=[]) (by kernel_rfl)⟩
     generalize hf:decide (0<items.length)=f at hs;cases f with
     |false=>exact .inr ⟨(by first|exact yA h1 h2 h3 hsp|exact yB h1 h4 h5 hsp|exact yA h1 X1a X1b hsp|exact yB h1 X1a X1b hsp),⟨[(1,.ptr 0 0 0),(4,.ptr 1 0 0),(22,.sl false 10 slots),(23,nat n),(24,nat ((j+1)+1))],[.var [num a,num b,.sl false 10 slots],.var [.bs 2 0 (k+items.length),nat (v+(cellsL vals).length)],.row 10 (msgsC (acc++items)),.var (slotC k0 i0 s0 t0 (cellsL l0) (cellsF f0) n0 d0 (msgsC items) (cellsL vals))]⟩,by kernel_rfl,fun M hM=>run_of [(25,.b true),(27,.e (slotC k0 i0 s0 t0 (cellsL l0) (cellsF f0) n0 d0 (msgsC items) (cellsL vals))),(31,.p (num ce)),(33,.b false),(42,.b true),(48,.i (Int.ofNat j)),(49,.e (slotC p0 p1 p2 p3 (cellsL p4) (cellsF p5) p6 p7 (msgsC p8) (cellsL p9))),(52,.p (num cc)),(54,.b false),(56,.b false),(58,.r (num 0) (cvB false (k+items.length) (v+(cellsL vals).length) (msgsC (acc++items)))),(62,.i (Int.ofNat ((j+1)+1)))] [] (pf12 hlt hg (hce M (by omega)) h1 (pos_nat (j:=j)) (pred_nat (j:=j) (by omega)) hp (hcc M hM) h4 h5 (hs M (by omega)) (next_nat (j:=(j+1)) (by omega))) (lo':=[]) (by kernel_rfl)⟩
     |true=>exact .inr ⟨(by first|exact yA h1 h2 h3 hsp|exact yB h1 h4 h5 hsp|exact yA h1 X1a X1b hsp|exact yB h1 X1a X1b hsp),⟨[(1,.ptr 0 0 0),(4,.ptr 1 0 0),(22,.sl false 10 slots),(23,nat n),(24,nat ((j+1)+1))],[.var [num a,num b,.sl false 10 slots],.var [.bs 4 0 (k+items.length),nat (v+(cellsL vals).length)],.dead,.var (slotC k0 i0 s0 t0 (cellsL l0) (cellsF f0) n0 d0 (msgsC items) (cellsL vals)),.row 10 (msgsC (acc++items))]⟩,by kernel_rfl,fun M hM=>run_of [(25,.b true),(27,.e (slotC k0 i0 s0 t0 (cellsL l0) (cellsF f0) n0 d0 (msgsC items) (cellsL vals))),(31,.p (num ce)),(33,.b false),(42,.b true),(48,.i (Int.ofNat j)),(49,.e (slotC p0 p1 p2 p3 (cellsL p4) (cellsF p5) p6 p7 (msgsC p8) (cellsL p9))),(52,.p (num cc)),(54,.b false),(56,.b false),(58,.r (num 0) (cvB true (k+items.length) (v+(cellsL vals).length) (msgsC (acc++items)))),(62,.i (Int.ofNat ((j+1)+1)))] [] (pf12 hlt hg (hce M (by omega)) h1 (pos_nat (j:=j)) (pred_nat (j:=j) (by omega)) hp (hcc M hM) h4 h5 (hs M (by omega)) (next_nat (j:=(j+1)) (by omega))) (lo':=[]) (by kernel_rfl)⟩
def ccAt (ss:List Slt)(j:Nat):Int:=if j=0 then 1 else match ss[j]?,ss[j-1]? with
 |some x,some p=>cmpV x.key p.key
 |_,_=>1
def StP (s:Stt):Prop:=chkN s.n s.t=0/\∀j (h:j<s.slots.length),RdP (accOf (s.slots.take j)) (accOf (s.slots.take j)).length (valsOf (s.slots.take j)) s.slots[j] (ccAt s.slots j)
theorem state_ex (s:Stt)(hs:s.small):∃c:Int,(c=0↔StP s)/\∀N,190060<=N->Gam.pureD (callF tab ext N) 101 [.agg s.cells]=some (num c):=by
 have hc0:=chkN_at s.n s.t;have hl:=hs.slots;have hx:=hs.slot;obtain ⟨a,b,ss⟩:=s;unfold StP;dsimp only at hc0 hl hx ⊢;generalize chkN a b=c0 at hc0 ⊢;have hn:=sltsC_length ss;have hloop:=scanX (nIn:=0) (P:=fun j=>∀h:j<ss.length,RdP (accOf (ss.take j)) (accOf (ss.take j)).length (valsOf (ss.take j)) ss[j] (ccAt ss j)) (B:=190050) (b:=loopAt 101 0) (H:=fun j=>scSt (sltsC ss) (sltsC ss) (sltsC ss).length j (accOf (ss.take j)).length (valsOf (ss.take j)) (msgsC (accOf (ss.take j))) a b)
  (τ:=⟨[(1,.ptr 0 0 0),(4,.ptr 1 0 0),(22,.sl false 10 (sltsC ss)),(23,nat (sltsC ss).length),(24,nat 0)],[.var [num a,num b,.sl false 10 (sltsC ss)],.var [.bs 2 0 0,nat 0],.row 10 []]⟩) (n:=ss.length) (e:=.exit 0)
  (fin:=⟨(scSt (sltsC ss) (sltsC ss) (sltsC ss).length (sltsC ss).length (accOf ss).length (valsOf ss) (msgsC (accOf ss)) a b).tm++[(25,boolX false)],(scSt (sltsC ss) (sltsC ss) (sltsC ss).length (sltsC ss).length (accOf ss).length (valsOf ss) (msgsC (accOf ss)) a b).bx⟩)
  (fun r=>∃(c:Int) (bx:List Bx),c≠0/\r=⟨[(2,num c)],bx⟩) (by kernel_rfl) (fun j hj=>by
   have hg:=sltsC_get hj;have hxj:=hx _ (qal hj);have hacc:∀o,o∈accOf (ss.take j)->o.ok:=fun o ho=>by obtain ⟨x,hxx,ho⟩:=List.mem_flatMap.1 ho;exact (hx x (List.mem_of_mem_take hxx)).1.item o ho
   have hla:=accOf_length (ss.take j) fun x hxx=>(hx x (List.mem_of_mem_take hxx)).2.1;have hlv:=valsOf_le (ss.take j) fun x hxx=>(hx x (List.mem_of_mem_take hxx)).2.2;have hlt:(ss.take j).length<=100:=by rw [qac];omega
   have hPj:(∀h:j<ss.length,RdP (accOf (ss.take j)) (accOf (ss.take j)).length (valsOf (ss.take j)) ss[j] (ccAt ss j))↔RdP (accOf (ss.take j)) (accOf (ss.take j)).length (valsOf (ss.take j)) ss[j] (ccAt ss j):=⟨fun h=>h hj,fun h _=>h⟩;rw [hPj];have:=xc_round (sltsC ss) (sltsC ss).length j (accOf (ss.take j)).length (valsOf (ss.take j)) (accOf (ss.take j)) a b ss[j] hxj.1 hacc rfl (by omega) (by omega) (by omega) (by omega) hg
    (ccAt ss j) (fun h=>by unfold ccAt;rw [if_pos h]) (fun i hi=>⟨ss[i]'(by omega),(hx _ (qal (by omega))).1,sltsC_get (by omega),by subst hi;unfold ccAt;rw [if_neg (by omega),qad hj,show i+1-1=i from rfl,qad (show i<ss.length by omega)]⟩)
   have e1:ss.take (j+1)=ss.take j++[ss[j]]:=qaP hj;rw [e1,accOf_append,valsOf_append,qae];exact this)
  (fun M _=>by rw [List.take_length,<-hn];exact run_of [(25,.b false)] [] (pf1 (nlt_nat (qar (sltsC ss).length))) (lo':=[]) (by kernel_rfl)) (by simp)
 cases h0:(!(c0==0)) with
 |true=>refine ⟨c0,⟨(fun h=>by rw [h] at h0;cases h0),fun h=>h.1⟩,fun N hN=>?_⟩;obtain ⟨M,rfl⟩:∃M,N=M+1:=⟨N-1,by omega⟩;exact pure_of [(13,.p (num c0)),(15,.b true)] [] (pf2 (hc0 M (by omega)) h0) (x:=num c0) (bx:=[]) (by kernel_rfl) rfl
 |false=>
  have hz:c0=0:=by simpa using h0
  have h1:decide (1024<Int.ofNat (sltsC ss).length)=false:=decide_eq_false (by simp only [qam];omega);rcases hloop with ⟨hP,r,⟨c,bx,hc,rfl⟩,h⟩|⟨hP,h⟩;·refine ⟨c,⟨fun h=>absurd h hc,fun h=>absurd (fun j _=>h.2 j) hP⟩,fun N hN=>?_⟩;obtain ⟨M,rfl⟩:∃M,N=M+1:=⟨N-1,by omega⟩;exact pure_of [(13,.p (num c0)),(15,.b false),(20,.b false)] [(.ret,⟨[(2,num c)],bx⟩)] (pf4 (hc0 M (by omega)) h0 h1 (h M (by omega) (by omega))) (x:=num c) (bx:=[]) (by kernel_rfl) rfl
  refine ⟨0,⟨fun _=>⟨hz,fun j hj=>hP j hj hj⟩,fun _=>rfl⟩,fun N hN=>?_⟩;obtain ⟨M,rfl⟩:∃M,N=M+1:=⟨N-1,by omega⟩;exact pure_of [(13,.p (num c0)),(15,.b false),(20,.b false)] [(.exit 0,⟨(scSt (sltsC ss) (sltsC ss) (sltsC ss).length (sltsC ss).length (accOf ss).length (valsOf ss) (msgsC (accOf ss)) a b).tm++[(25,boolX false)],(scSt (sltsC ss) (sltsC ss) (sltsC ss).length (sltsC ss).length (accOf ss).length (valsOf ss) (msgsC (accOf ss)) a b).bx⟩)] (pf4 (hc0 M (by omega)) h0 h1 (h M (by omega) (by omega))) (x:=num 0) (bx:=[]) (by kernel_rfl) rfl
def heH (l:qaV)(n j k:Nat):St:=⟨[(3,nat k),(7,.sl false 10 l),(8,nat n),(9,nat j)],[]⟩
theorem add_len {a b:Nat}(h:a+b<4294967296):IntKind.i64.wrap (Int.ofNat a+Int.ofNat b)=Int.ofNat (a+b):=by rw [IntKind.wrap_i64];simp only [qam];omega
theorem accOf_take {ss:List Slt}{j:Nat}(hj:j<ss.length):accOf (ss.take (j+1))=accOf (ss.take j)++ss[j].items:=by rw [qaP hj,accOf_append]
theorem held_pure (s:Stt)(hs:s.small)(N:Nat)(hN:60020<=N):Gam.pureD (callF tab ext N) 65 [.agg s.cells]=some (nat (accOf s.slots).length):=by
 obtain ⟨M,rfl⟩:∃M,N=M+1:=⟨N-1,by omega⟩;have hl:=hs.slots;have hx:=hs.slot;obtain ⟨a,b,ss⟩:=s;dsimp only at hl hx ⊢;have hn:=sltsC_length ss;have hloop:run (callF tab ext M) 0 M (.loop (loopAt 65 0)) ⟨(heH (sltsC ss) (sltsC ss).length 0 0).tm,[.var [num a,num b,.sl false 10 (sltsC ss)]]⟩=some (.exit 0,⟨[(3,nat (accOf ss).length),(7,.sl false 10 (sltsC ss)),(8,nat (sltsC ss).length),(9,nat (sltsC ss).length),(10,boolX false)],[]⟩):=by
  refine loop_for (σ:=fun j=>heH (sltsC ss) (sltsC ss).length j (accOf (ss.take j)).length) (k:=(sltsC ss).length) (by kernel_rfl) (fun j hj=>?_) ?_ (by simp) (by omega)
  ·have hj':j<ss.length:=by omega
   have hg:=sltsC_get hj';have hla:=accOf_length (ss.take j) fun x hxx=>(hx x (List.mem_of_mem_take hxx)).2.1;have hlt:(ss.take j).length<=100:=by rw [qac];omega
   have hi:=(hx _ (qal hj')).2.1;rw [accOf_take hj',qae];generalize ss[j]=x at hg hi;obtain ⟨⟨k0,i0,s0,t0,l0,f0⟩,n0,d0,items,vals⟩:=x;have hm:=msgsC_length items;dsimp only at hi ⊢;rw [<-hm];exact ⟨⟨(heH (sltsC ss) (sltsC ss).length (j+1) ((accOf (ss.take j)).length+(msgsC items).length)).tm,[.var (slotC k0 i0 s0 t0 (cellsL l0) (cellsF f0) n0 d0 (msgsC items) (cellsL vals))]⟩,
    run_of [(10,.b true),(11,.e (slotC k0 i0 s0 t0 (cellsL l0) (cellsF f0) n0 d0 (msgsC items) (cellsL vals))),(17,.i (Int.ofNat ((accOf (ss.take j)).length+(msgsC items).length))),(18,.i (Int.ofNat (j+1)))] []
     (pf4 (lt_nat hj) hg (add_len (a:=(accOf (ss.take j)).length) (b:=(msgsC items).length) (by omega)) (next_nat (j:=j) (by omega))) (lo':=[]) (by kernel_rfl),by kernel_rfl⟩
  have e:ss.take (sltsC ss).length=ss:=List.take_of_length_le (by omega);rw [e];exact run_of [(10,.b false)] [] (pf1 (nlt_nat (qar (sltsC ss).length))) (lo':=[]) (by kernel_rfl)
 exact pure_of [] [(.exit 0,⟨[(3,nat (accOf ss).length),(7,.sl false 10 (sltsC ss)),(8,nat (sltsC ss).length),(9,nat (sltsC ss).length),(10,boolX false)],[]⟩)] (pf1 hloop) (x:=nat (accOf ss).length) (bx:=[]) (by kernel_rfl) rfl
section
variable (l items acc:qaV) (n j k m i:Nat) (x:List X)
def waH:St:=⟨[(3,.bs 0 0 k),(9,.sl false 10 l),(10,nat n),(11,nat j)],[.row 10 acc]⟩
def wiH:St:=⟨[(3,.bs 0 0 k),(9,.sl false 10 l),(10,nat n),(11,nat j),(16,.sl false 10 items),(17,nat m),(18,nat i)],[.row 10 acc]⟩
def wiH':St:=⟨[(3,.bs 2 0 (k+1)),(9,.sl false 10 l),(10,nat n),(11,nat j),(16,.sl false 10 items),(17,nat m),(18,nat (i+1))],[.dead,.var x,.row 10 (acc++[x])]⟩
def wiE:St:=⟨[(3,.bs 0 0 k),(9,.sl false 10 l),(10,nat n),(11,nat j),(16,.sl false 10 items),(17,nat m),(18,nat m),(19,boolX false)],[.row 10 acc]⟩
theorem wa_canon:canon 0 (waH l acc n j k)=some (waH l acc n j k):=by kernel_rfl
theorem wi_canon':canon 0 (wiH' l items acc n j k m i x)=some (wiH l items (acc++[x]) n j (k+1) m (i+1)):=by kernel_rfl
end
theorem wi_loop (M:Nat)(hM:190010<=M)(l:qaV)(n j:Nat)(acc items:List Msg)(hok:∀m,m∈items->m.ok)(hl:acc.length+items.length<=60000)(hτ:canon 0 τ=some (wiH l (msgsC items) (msgsC acc) n j acc.length (msgsC items).length 0)):
  run (callF tab ext M) 0 M (.loop (loopAt 22 1)) τ=some (.exit 2,wiE l (msgsC items) (msgsC (acc++items)) n j (acc++items).length (msgsC items).length):=by
 have hn:=msgsC_length items;refine loop_for (σ:=fun i=>wiH l (msgsC items) (msgsC (acc++items.take i)) n j (acc++items.take i).length (msgsC items).length i) (k:=(msgsC items).length) (by rw [List.take_zero,List.append_nil];exact hτ) (fun i hi=>?_) ?_ (by simp) (by omega)
 ·have hi':i<items.length:=by omega
  have hg:=msgsC_get hi';have hc:=clone_msg M items[i] (hok _ (qal hi')) (by omega);have hlen:(acc++items.take i).length=acc.length+i:=by rw [qae,qac];omega
  have hml:=msgsC_length (acc++items.take i);have e1:acc++items.take (i+1)=(acc++items.take i)++[items[i]]:=by rw [qaP hi',qau]
  have e2:msgsC ((acc++items.take i)++[items[i]])=msgsC (acc++items.take i)++[items[i].cells]:=by simp only [msgsC,List.map_append,qaO,List.map_nil]
  have e3:((acc++items.take i)++[items[i]]).length=(acc++items.take i).length+1:=qae.trans rfl;rw [e1,e2,e3];generalize items[i]=x at hg hc;obtain ⟨⟨a1,a2⟩,a3,a4,a5,a6,a7,a8,a9,a0⟩:=x;generalize acc++items.take i=q at hlen hml;exact ⟨wiH' l (msgsC items) (msgsC q) n j q.length (msgsC items).length i (Msg.mk ⟨a1,a2⟩ a3 a4 (Val.mk a5 a6 a7 a8 a9 a0)).cells,
   run_of [(19,.b true),(20,.e (Msg.mk ⟨a1,a2⟩ a3 a4 (Val.mk a5 a6 a7 a8 a9 a0)).cells),(24,.p (.agg (Msg.mk ⟨a1,a2⟩ a3 a4 (Val.mk a5 a6 a7 a8 a9 a0)).cells)),(26,.app),(27,.i (Int.ofNat (i+1)))] []
    (pf5 (lt_nat hi) hg hc (app_ok (acc:=msgsC q) q.length 0 152 (by omega) (by omega) (by omega)) (next_nat (j:=i) (by omega))) (lo':=[]) (by kernel_rfl),wi_canon' ..⟩
 have e:items.take (msgsC items).length=items:=List.take_of_length_le (by omega);rw [e];exact run_of [(19,.b false)] [] (pf1 (nlt_nat (qar (msgsC items).length))) (lo':=[]) (by kernel_rfl)
theorem waiting_pure (s:Stt)(hs:s.small)(N:Nat)(hN:190020<=N):Gam.pureD (callF tab ext N) 22 [.agg s.cells]=some (.sl false 10 (msgsC (accOf s.slots))):=by
 obtain ⟨M,rfl⟩:∃M,N=M+1:=⟨N-1,by omega⟩;have hl:=hs.slots;have hx:=hs.slot;obtain ⟨a,b,ss⟩:=s;dsimp only at hl hx ⊢;have hn:=sltsC_length ss;have hloop:run (callF tab ext M) 0 M (.loop (loopAt 22 0)) ⟨[(3,.bs 1 0 0),(9,.sl false 10 (sltsC ss)),(10,nat (sltsC ss).length),(11,nat 0)],[.var [num a,num b,.sl false 10 (sltsC ss)],.row 10 []]⟩=some (.exit 0,⟨[(3,.bs 0 0 (accOf ss).length),(9,.sl false 10 (sltsC ss)),(10,nat (sltsC ss).length),(11,nat (sltsC ss).length),(12,boolX false)],[.row 10 (msgsC (accOf ss))]⟩):=by
  refine loop_for (σ:=fun j=>waH (sltsC ss) (msgsC (accOf (ss.take j))) (sltsC ss).length j (accOf (ss.take j)).length) (k:=(sltsC ss).length) (by kernel_rfl) (fun j hj=>?_) ?_ (by simp) (by omega)
  ·have hj':j<ss.length:=by omega
   have hg:=sltsC_get hj';have hla:=accOf_length (ss.take j) fun x hxx=>(hx x (List.mem_of_mem_take hxx)).2.1;have hlt:(ss.take j).length<=100:=by rw [qac];omega
   obtain ⟨hok,hi,_⟩:=hx _ (qal hj');have hit:=hok.item;rw [accOf_take hj'];generalize ss[j]=x at hg hi hit;obtain ⟨⟨k0,i0,s0,t0,l0,f0⟩,n0,d0,items,vals⟩:=x;dsimp only at hi hit ⊢;generalize accOf (ss.take j)=q at hla ⊢;have hw:=wi_loop M (by omega) (sltsC ss) (sltsC ss).length j q items hit (by omega) (τ:=⟨[(3,.bs 0 0 q.length),(9,.sl false 10 (sltsC ss)),(10,nat (sltsC ss).length),(11,nat j),(16,.sl false 10 (msgsC items)),(17,nat (msgsC items).length),(18,nat 0)],[.row 10 (msgsC q),.var (slotC k0 i0 s0 t0 (cellsL l0) (cellsF f0) n0 d0 (msgsC items) (cellsL vals))]⟩) (by kernel_rfl);exact ⟨waH (sltsC ss) (msgsC (q++items)) (sltsC ss).length (j+1) (q++items).length,run_of [(12,.b true),(13,.e (slotC k0 i0 s0 t0 (cellsL l0) (cellsF f0) n0 d0 (msgsC items) (cellsL vals))),(28,.i (Int.ofNat (j+1)))] [(.exit 2,wiE (sltsC ss) (msgsC items) (msgsC (q++items)) (sltsC ss).length j (q++items).length (msgsC items).length)]
    (pf4 (lt_nat hj) hg hw (next_nat (j:=j) (by omega))) (lo':=[]) (by kernel_rfl),wa_canon ..⟩
  have e:ss.take (sltsC ss).length=ss:=List.take_of_length_le (by omega);rw [e];exact run_of [(12,.b false)] [] (pf1 (nlt_nat (qar (sltsC ss).length))) (lo':=[]) (by kernel_rfl)
 have hd:(X.bs 0 0 (accOf ss).length).data [.row 10 (msgsC (accOf ss))] false=some (.sl false 10 (msgsC (accOf ss))):=by have hml:=msgsC_length (accOf ss);simp only [X.data,rowOf,List.getElem?_cons_zero,Nat.zero_add,hml,Nat.le_refl,if_true,qaG,List.drop_zero];rw [List.take_of_length_le (by omega)]
 exact pure_of [] [(.exit 0,⟨[(3,.bs 0 0 (accOf ss).length),(9,.sl false 10 (sltsC ss)),(10,nat (sltsC ss).length),(11,nat (sltsC ss).length),(12,boolX false)],[.row 10 (msgsC (accOf ss))]⟩)] (pf1 hloop) (bx:=[.row 10 (msgsC (accOf ss))]) (by kernel_rfl) hd
theorem min_int (a b:Nat):(if Int.ofNat b<Int.ofNat a then Int.ofNat b else Int.ofNat a)=Int.ofNat (min a b):=by grind
theorem dec_nat {j:Nat}(h:j<4294967296):Go.IntKind.i64.wrap (Int.ofNat (j+1)-1)=Int.ofNat j:=by grind[IntKind.wrap_i64]
theorem cut_ok (a b:Nat):0<=min a b/\min a b<=a:=by grind
def cutT (m:Nat)(t:qaW):qaW:=t.extract 0 (min t.size m)
def shortV:Nat->Val->Val
 |0,.mk k i s t _ _=>.mk k i s (cutT 40 t) [] []
 |n+1,.mk k i s t l f=>.mk k i s (cutT 40 t) ((l.take 6).map (shortV n)) ((f.take 6).map fun p=>(cutT 40 p.1,shortV n p.2))
section
variable (lv k i s:Int) (t:qaW) (l f acc acc2:qaV) (j m:Nat) (x y:List X)
def svH:St:=⟨[(1,num lv),(2,.ptr 0 0 0),(4,.ptr 1 0 0),(5,.bs 2 0 j),(6,.sl true 7 []),(7,nat j)],[.var [num k,num i,num s,strX t,.sl false 6 l,.sl false 7 f],.var zVal,.row 6 acc]⟩
def svN:St:=⟨[(1,num lv),(2,.ptr 0 0 0),(4,.ptr 1 0 0),(5,.bs 3 0 (j+1)),(6,.sl true 7 []),(7,nat (j+1))],[.var [num k,num i,num s,strX t,.sl false 6 l,.sl false 7 f],.var zVal,.dead,.row 6 (acc++[x])]⟩
def svE:St:=⟨[(1,num lv),(2,.ptr 0 0 0),(4,.ptr 1 0 0),(5,.bs 2 0 j),(6,.sl true 7 []),(7,nat j),(29,boolX false)],[.var [num k,num i,num s,strX t,.sl false 6 l,.sl false 7 f],.var zVal,.row 6 acc]⟩
theorem sv_canon:canon 0 (svH lv k i s t l f acc j)=some (svH lv k i s t l f acc j):=by kernel_rfl
theorem sv_canon':canon 0 (svN lv k i s t l f acc j x)=some (svH lv k i s t l f (acc++[x]) (j+1)):=by kernel_rfl
def sfH:St:=⟨[(1,num lv),(2,.ptr 0 0 0),(4,.ptr 1 0 0),(5,.bs 2 0 m),(6,.bs 3 0 j),(8,nat j)],[.var [num k,num i,num s,strX t,.sl false 6 l,.sl false 7 f],.var zVal,.row 6 acc,.row 7 acc2]⟩
def sfN:St:=⟨[(1,num lv),(2,.ptr 0 0 0),(4,.ptr 1 0 0),(5,.bs 2 0 m),(6,.bs 4 0 (j+1)),(8,nat (j+1))],[.var [num k,num i,num s,strX t,.sl false 6 l,.sl false 7 f],.var zVal,.row 6 acc,.dead,.row 7 (acc2++[x])]⟩
def sfE:St:=⟨[(1,num lv),(2,.ptr 0 0 0),(4,.ptr 1 0 0),(5,.bs 2 0 m),(6,.bs 3 0 j),(8,nat j),(55,boolX false)],[.var [num k,num i,num s,strX t,.sl false 6 l,.sl false 7 f],.var zVal,.row 6 acc,.row 7 acc2]⟩
theorem sf_canon:canon 0 (sfH lv k i s t l f acc acc2 j m)=some (sfH lv k i s t l f acc acc2 j m):=by kernel_rfl
theorem sf_canon':canon 0 (sfN lv k i s t l f acc acc2 j m x)=some (sfH lv k i s t l f acc (acc2++[x]) (j+1) m):=by kernel_rfl
end
theorem take_map_succ {α β:Type}(g:α->β){l:List α}{k j:Nat}(h:j<(l.take k).length):((l.take k).take (j+1)).map g=((l.take k).take j).map g++[g (l[j]'(by grind))]:=by grind[qaP]
theorem sv_fin (M:Nat)(k i s:Int)(t:qaW)(L F a b:qaV)(m q n:Nat)(hm:a.length=m)(hq:b.length=q)
  (h1:run (callF tab ext M) 0 M (.loop (loopAt 34 0)) (svH (Int.ofNat (n+1)) k i s (cutT 40 t) L F [] 0)=some (.exit 0,svE (Int.ofNat (n+1)) k i s (cutT 40 t) L F a m))
  (h2:run (callF tab ext M) 0 M (.loop (loopAt 34 1)) (sfH (Int.ofNat (n+1)) k i s (cutT 40 t) L F a [] 0 m)=some (.exit 2,sfE (Int.ofNat (n+1)) k i s (cutT 40 t) L F a b q m)):
  Gam.pureD (callF tab ext (M+1)) 34 [.agg [num k,num i,num s,strX t,.sl false 6 L,.sl false 7 F],nat (n+1)]=some (.agg [num k,num i,num s,strX (cutT 40 t),.sl false 6 a,.sl false 7 b]):=by
 have hd:(X.agg [num k,num i,num s,strX (cutT 40 t),.bs 0 0 m,.bs 1 0 q]).data [.row 6 a,.row 7 b] false=some (.agg [num k,num i,num s,strX (cutT 40 t),.sl false 6 a,.sl false 7 b]):=by subst hm hq;simp [X.data,dataL,rowOf,num,strX]
 exact pure_of [(14,.i (Int.ofNat (min t.size 40))),(15,.cut)] [(.exit 0,svE (Int.ofNat (n+1)) k i s (cutT 40 t) L F a m),(.exit 2,sfE (Int.ofNat (n+1)) k i s (cutT 40 t) L F a b q m)] (pf4 (min_int t.size 40) (cut_ok t.size 40) h1 h2)
  (x:=.agg [num k,num i,num s,strX (cutT 40 t),.bs 0 0 m,.bs 1 0 q]) (bx:=[.row 6 a,.row 7 b]) (by kernel_rfl) hd
theorem cellsL_snoc (l:List Val)(v:Val):cellsL (l++[v])=cellsL l++[v.cells]:=by simp [cellsL_eq]
theorem cellsF_snoc (l:List (qaW×Val))(t:qaW)(v:Val):cellsF (l++[(t,v)])=cellsF l++[strX t::v.cells]:=by simp [cellsF_eq]
theorem gt_one (n:Nat):decide (Int.ofNat (n+1+1)>1)=true:=by grind
theorem lt_lit {j m:Nat}(h:j<m):decide (Int.ofNat j<Int.ofNat m)=true:=lt_nat h
theorem short_val:∀(n:Nat) (v:Val) (N:Nat),n<1000->10+n<=N->Gam.pureD (callF tab ext N) 34 [.agg v.cells,nat (n+1)]=some (.agg (shortV n v).cells)
 |0,.mk k i s t l f,N,_,hN=>by
  obtain ⟨M,rfl⟩:∃M,N=M+1:=⟨N-1,by omega⟩;refine sv_fin M k i s t (cellsL l) (cellsF f) [] [] 0 0 0 rfl rfl ?_ ?_
  ·refine loop_for (σ:=fun j=>svH (Int.ofNat 1) k i s (cutT 40 t) (cellsL l) (cellsF f) [] j) (k:=0) (sv_canon ..) (fun j hj=>by omega) ?_ (by simp) (by omega);cases h1:decide (Int.ofNat 0<Int.ofNat (cellsL l).length) with
   |true=>exact run_of [(21,.b true)] [] (pf1 h1) (lo':=[]) (by kernel_rfl)
   |false=>exact run_of [(21,.b false)] [] (pf1 h1) (lo':=[]) (by kernel_rfl)
  refine loop_for (σ:=fun j=>sfH (Int.ofNat 1) k i s (cutT 40 t) (cellsL l) (cellsF f) [] [] j 0) (k:=0) (sf_canon ..) (fun j hj=>by omega) ?_ (by simp) (by omega);cases h1:decide (Int.ofNat 0<Int.ofNat (cellsF f).length) with
  |true=>exact run_of [(47,.b true)] [] (pf1 h1) (lo':=[]) (by kernel_rfl)
  |false=>exact run_of [(47,.b false)] [] (pf1 h1) (lo':=[]) (by kernel_rfl)
 |n+1,.mk k i s t l f,N,hn,hN=>by
  obtain ⟨M,rfl⟩:∃M,N=M+1:=⟨N-1,by omega⟩;have el:=cellsL_length l;have ef:=cellsF_length f;have e1:(shortV (n+1) (.mk k i s t l f)).cells=[num k,num i,num s,strX (cutT 40 t),.sl false 6 (cellsL ((l.take 6).map (shortV n))),.sl false 7 (cellsF ((f.take 6).map fun p=>(cutT 40 p.1,shortV n p.2)))]:=rfl;rw [e1];have hd:=dec_nat (j:=n+1) (by omega);refine sv_fin M k i s t (cellsL l) (cellsF f) _ _ (l.take 6).length (f.take 6).length (n+1) (by grind[cellsL_length]) (by grind[cellsF_length]) ?_ ?_
  ·refine loop_for (σ:=fun j=>svH (Int.ofNat (n+2)) k i s (cutT 40 t) (cellsL l) (cellsF f) (cellsL (((l.take 6).take j).map (shortV n))) j) (k:=(l.take 6).length) (sv_canon ..) (fun j hj=>?_) ?_ (by simp) (by grind)
   ·have hj1:j<l.length:=by rw [qac] at hj;omega
    have hj2:j<6:=by rw [qac] at hj;omega
    have hg:=cellsL_get hj1;have hc:=short_val n l[j] M (by omega) (by omega);have hlen:(cellsL (((l.take 6).take j).map (shortV n))).length=j:=by rw [cellsL_length,qay,qac,qac];omega
    rw [take_map_succ (shortV n) hj,cellsL_snoc];generalize l[j]=v at hg hc;generalize shortV n v=w at hc;generalize ((l.take 6).take j).map (shortV n)=acc at hlen;obtain ⟨a1,a2,a3,a4,a5,a6⟩:=v;obtain ⟨b1,b2,b3,b4,b5,b6⟩:=w;exact ⟨_,run_of (σ':=svN (Int.ofNat (n+2)) k i s (cutT 40 t) (cellsL l) (cellsF f) (cellsL acc) j (Val.mk b1 b2 b3 b4 b5 b6).cells) [(21,.b true),(24,.b true),(28,.b true),(36,.e (Val.mk a1 a2 a3 a4 a5 a6).cells),(39,.i (Int.ofNat (n+1))),(40,.p (.agg (Val.mk b1 b2 b3 b4 b5 b6).cells)),(42,.app),(31,.i (Int.ofNat (j+1)))] []
     (pf8 (lt_nat (j:=j) (k:=(cellsL l).length) (by omega)) (lt_lit hj2) (gt_one n) hg hd hc (app_ok (acc:=cellsL acc) j 2 88 hlen.symm (by omega) (by omega)) (next_nat (j:=j) (by omega))) (lo':=[]) (by kernel_rfl),sv_canon' ..⟩
   have e2:(l.take 6).take (l.take 6).length=l.take 6:=List.take_length;rw [e2];by_cases h6:(l.take 6).length<l.length
   ·have h7:(l.take 6).length=6:=by rw [qac] at h6 ⊢;omega
    exact run_of [(21,.b true),(24,.b false)] [] (pf2 (lt_nat (j:=(l.take 6).length) (k:=(cellsL l).length) (by omega)) (nlt_nat (j:=(l.take 6).length) (k:=6) (by omega))) (lo':=[]) (by kernel_rfl)
   exact run_of [(21,.b false)] [] (pf1 (nlt_nat (j:=(l.take 6).length) (k:=(cellsL l).length) (by omega))) (lo':=[]) (by kernel_rfl)
  generalize cellsL ((l.take 6).map (shortV n))=aL;generalize (l.take 6).length=m;refine loop_for (σ:=fun j=>sfH (Int.ofNat (n+2)) k i s (cutT 40 t) (cellsL l) (cellsF f) aL (cellsF (((f.take 6).take j).map fun p=>(cutT 40 p.1,shortV n p.2))) j m) (k:=(f.take 6).length) (sf_canon ..) (fun j hj=>?_) ?_ (by simp) (by grind)
  ·have hj1:j<f.length:=by rw [qac] at hj;omega
   have hj2:j<6:=by rw [qac] at hj;omega
   have hg:=cellsF_get hj1;have hc:=short_val n f[j].2 M (by omega) (by omega);have hlen:(cellsF (((f.take 6).take j).map fun p=>(cutT 40 p.1,shortV n p.2))).length=j:=by rw [cellsF_length,qay,qac,qac];omega
   rw [take_map_succ (fun p:qaW×Val=>(cutT 40 p.1,shortV n p.2)) hj,cellsF_snoc];generalize f[j]=v at hg hc;obtain ⟨vt,v⟩:=v;dsimp only at hg hc ⊢;generalize shortV n v=w at hc;generalize ((f.take 6).take j).map (fun p:qaW×Val=>(cutT 40 p.1,shortV n p.2))=acc at hlen;obtain ⟨a1,a2,a3,a4,a5,a6⟩:=v;obtain ⟨b1,b2,b3,b4,b5,b6⟩:=w;exact ⟨_,run_of (σ':=sfN (Int.ofNat (n+2)) k i s (cutT 40 t) (cellsL l) (cellsF f) aL (cellsF acc) j m (strX (cutT 40 vt)::(Val.mk b1 b2 b3 b4 b5 b6).cells)) [(47,.b true),(50,.b true),(54,.b true),(62,.e (strX vt::(Val.mk a1 a2 a3 a4 a5 a6).cells)),(68,.e (strX vt::(Val.mk a1 a2 a3 a4 a5 a6).cells)),(72,.i (Int.ofNat (min vt.size 40))),(73,.cut),(77,.e (strX vt::(Val.mk a1 a2 a3 a4 a5 a6).cells)),(81,.i (Int.ofNat (n+1))),(82,.p (.agg (Val.mk b1 b2 b3 b4 b5 b6).cells)),(85,.app),(57,.i (Int.ofNat (j+1)))] []
    (pf12 (lt_nat (j:=j) (k:=(cellsF f).length) (by omega)) (lt_lit hj2) (gt_one n) hg hg (min_int vt.size 40) (cut_ok vt.size 40) hg hd hc (app_ok (acc:=cellsF acc) j 3 104 hlen.symm (by omega) (by omega)) (next_nat (j:=j) (by omega))) (lo':=[]) (by kernel_rfl),sf_canon' ..⟩
  have e2:(f.take 6).take (f.take 6).length=f.take 6:=List.take_length;rw [e2];by_cases h6:(f.take 6).length<f.length
  ·have h7:(f.take 6).length=6:=by rw [qac] at h6 ⊢;omega
   exact run_of [(47,.b true),(50,.b false)] [] (pf2 (lt_nat (j:=(f.take 6).length) (k:=(cellsF f).length) (by omega)) (nlt_nat (j:=(f.take 6).length) (k:=6) (by omega))) (lo':=[]) (by kernel_rfl)
  exact run_of [(47,.b false)] [] (pf1 (nlt_nat (j:=(f.take 6).length) (k:=(cellsF f).length) (by omega))) (lo':=[]) (by kernel_rfl)
def cutM1 (x:Int):Int:=if 0>x then 0 else x
def cutM2 (x:Int):Int:=if 1099511627776<x then 1099511627776 else x
def cutI (p:List Int):List Int:=p.take (min (intsC p).length 6)
theorem cutI_cells (p:List Int):intsC (cutI p)=(intsC p).take (min (intsC p).length 6):=by simp [cutI,intsC]
theorem cutI_length (p:List Int):(cutI p).length<=6:=by grind[cutI]
theorem cut_room (p:qaV):roomOk (([]:qaV).length+(List.drop 0 (List.take (min p.length 6) p)).length) 8=true:=by grind[room_of]
def shortM (m:Msg):Msg:=⟨⟨m.st.e,cutI m.st.p⟩,cutM2 (cutM1 m.mass),cutI m.orig,shortV 4 m.body⟩
theorem short_msg (m:Msg)(N:Nat)(hN:20<=N):Gam.pureD (callF tab ext N) 35 [.agg m.cells]=some (.agg (shortM m).cells):=by
 obtain ⟨M,rfl⟩:∃M,N=M+1:=⟨N-1,by omega⟩;have hc:=short_val 4 m.body M (by omega) (by omega);have e:(shortM m).cells=num m.st.e::.sl false 1 ((intsC m.st.p).take (min (intsC m.st.p).length 6))::num (cutM2 (cutM1 m.mass))::.sl false 1 ((intsC m.orig).take (min (intsC m.orig).length 6))::(shortV 4 m.body).cells:=by rw [<-cutI_cells,<-cutI_cells];rfl
 rw [e];generalize shortV 4 m.body=w at hc;obtain ⟨⟨e0,p⟩,ms,o,⟨a1,a2,a3,a4,a5,a6⟩⟩:=m;obtain ⟨b1,b2,b3,b4,b5,b6⟩:=w;exact pure_of [(11,.i (Int.ofNat (min (intsC p).length 6))),(12,.cut),(13,.fresh),(22,.i (Int.ofNat (min (intsC o).length 6))),(23,.cut),(24,.fresh),(28,.p (.agg (Val.mk b1 b2 b3 b4 b5 b6).cells)),(31,.i (cutM1 ms)),(32,.i (cutM2 (cutM1 ms)))] []
  (pf9 (min_int (intsC p).length 6) (cut_ok (intsC p).length 6) (cut_room (intsC p)) (min_int (intsC o).length 6) (cut_ok (intsC o).length 6) (cut_room (intsC o)) hc (rfl:cutM1 ms=cutM1 ms) (rfl:cutM2 (cutM1 ms)=cutM2 (cutM1 ms)))
  (x:=.agg (num e0::.sl false 1 ((intsC p).take (min (intsC p).length 6))::num (cutM2 (cutM1 ms))::.sl false 1 ((intsC o).take (min (intsC o).length 6))::(Val.mk b1 b2 b3 b4 b5 b6).cells)) (bx:=[]) (by kernel_rfl) rfl
structure Inp where
 kind:Int
 time:Int
 st:Stp
 m:Msg
 x:Int
 b1:Bool
 b2:Bool
 body:Val
def Inp.cells (i:Inp):List X:=num i.kind::num i.time::num i.st.e::.sl false 1 (intsC i.st.p)::num i.m.st.e::.sl false 1 (intsC i.m.st.p)::num i.m.mass::.sl false 1 (intsC i.m.orig)::(i.m.body.cells++num i.x::boolX i.b1::boolX i.b2::i.body.cells)
def shortL (x:Slt):Slt:=⟨shortV 2 x.key,x.n,x.t,(x.items.take 4).map shortM,(x.vals.take 4).map (shortV 3)⟩
def shortS (s:Stt):Stt:=⟨s.n,s.t,(s.slots.take 6).map shortL⟩
section
variable (a b:Int) (l acc:qaV) (j:Nat) (k i s n t:Int) (tx:qaW) (vl vf its vs:qaV) (k' i' s':Int) (tx':qaW) (vl' vf' its' vs':qaV) (z z2:Nat) (x:List X)
def ssH:St:=⟨[(1,.ptr 0 0 0),(2,.ptr 1 0 0),(3,.bs 2 0 j),(4,nat j)],[.var [num a,num b,.sl false 10 l],.var zState,.row 10 acc]⟩
def siH:St:=⟨[(1,.ptr 0 0 0),(2,.ptr 1 0 0),(3,.bs 2 0 j),(4,nat j),(5,.ptr 3 0 0),(6,.ptr 4 0 0),(7,nat z)],[.var [num a,num b,.sl false 10 l],.var zState,.row 10 acc,.var (slotC k i s tx vl vf n t its vs),.var [num k',num i',num s',strX tx',.sl false 6 vl',.sl false 7 vf',num n,num t,.bs 5 0 z,.sl true 6 []],.row 10 its']⟩
def siN:St:=⟨[(1,.ptr 0 0 0),(2,.ptr 1 0 0),(3,.bs 2 0 j),(4,nat j),(5,.ptr 3 0 0),(6,.ptr 4 0 0),(7,nat (z+1))],[.var [num a,num b,.sl false 10 l],.var zState,.row 10 acc,.var (slotC k i s tx vl vf n t its vs),.var [num k',num i',num s',strX tx',.sl false 6 vl',.sl false 7 vf',num n,num t,.bs 6 0 (z+1),.sl true 6 []],.dead,.row 10 (its'++[x])]⟩
def siE:St:=⟨[(1,.ptr 0 0 0),(2,.ptr 1 0 0),(3,.bs 2 0 j),(4,nat j),(5,.ptr 3 0 0),(6,.ptr 4 0 0),(7,nat z),(41,boolX false)],[.var [num a,num b,.sl false 10 l],.var zState,.row 10 acc,.var (slotC k i s tx vl vf n t its vs),.var [num k',num i',num s',strX tx',.sl false 6 vl',.sl false 7 vf',num n,num t,.bs 5 0 z,.sl true 6 []],.row 10 its']⟩
theorem si_canon:canon 0 (siH a b l acc j k i s n t tx vl vf its vs k' i' s' tx' vl' vf' its' z)=some (siH a b l acc j k i s n t tx vl vf its vs k' i' s' tx' vl' vf' its' z):=by kernel_rfl
theorem si_canon':canon 0 (siN a b l acc j k i s n t tx vl vf its vs k' i' s' tx' vl' vf' its' z x)=some (siH a b l acc j k i s n t tx vl vf its vs k' i' s' tx' vl' vf' (its'++[x]) (z+1)):=by kernel_rfl
def swH:St:=⟨[(1,.ptr 0 0 0),(2,.ptr 1 0 0),(3,.bs 2 0 j),(4,nat j),(5,.ptr 3 0 0),(6,.ptr 4 0 0),(8,nat z)],[.var [num a,num b,.sl false 10 l],.var zState,.row 10 acc,.var (slotC k i s tx vl vf n t its vs),.var [num k',num i',num s',strX tx',.sl false 6 vl',.sl false 7 vf',num n,num t,.bs 5 0 z2,.bs 6 0 z],.row 10 its',.row 6 vs']⟩
def swN:St:=⟨[(1,.ptr 0 0 0),(2,.ptr 1 0 0),(3,.bs 2 0 j),(4,nat j),(5,.ptr 3 0 0),(6,.ptr 4 0 0),(8,nat (z+1))],[.var [num a,num b,.sl false 10 l],.var zState,.row 10 acc,.var (slotC k i s tx vl vf n t its vs),.var [num k',num i',num s',strX tx',.sl false 6 vl',.sl false 7 vf',num n,num t,.bs 5 0 z2,.bs 7 0 (z+1)],.row 10 its',.dead,.row 6 (vs'++[x])]⟩
def swE:St:=⟨[(1,.ptr 0 0 0),(2,.ptr 1 0 0),(3,.bs 2 0 j),(4,nat j),(5,.ptr 3 0 0),(6,.ptr 4 0 0),(8,nat z),(63,boolX false)],[.var [num a,num b,.sl false 10 l],.var zState,.row 10 acc,.var (slotC k i s tx vl vf n t its vs),.var [num k',num i',num s',strX tx',.sl false 6 vl',.sl false 7 vf',num n,num t,.bs 5 0 z2,.bs 6 0 z],.row 10 its',.row 6 vs']⟩
theorem sw_canon:canon 0 (swH a b l acc j k i s n t tx vl vf its vs k' i' s' tx' vl' vf' its' vs' z z2)=some (swH a b l acc j k i s n t tx vl vf its vs k' i' s' tx' vl' vf' its' vs' z z2):=by kernel_rfl
theorem sw_canon':canon 0 (swN a b l acc j k i s n t tx vl vf its vs k' i' s' tx' vl' vf' its' vs' z z2 x)=some (swH a b l acc j k i s n t tx vl vf its vs k' i' s' tx' vl' vf' its' (vs'++[x]) (z+1) z2):=by kernel_rfl
end
theorem msgsC_snoc (l:List Msg)(m:Msg):msgsC (l++[m])=msgsC l++[m.cells]:=by simp [msgsC]
theorem sltsC_snoc (l:List Slt)(m:Slt):sltsC (l++[m])=sltsC l++[m.cells]:=by simp [sltsC]
theorem si_loop (M:Nat)(hM:40<=M)(a b:Int)(l acc:qaV)(j:Nat)(k i s n t:Int)(tx:qaW)(vl vf vs:qaV)(k' i' s':Int)(tx':qaW)(vl' vf':qaV)(ms:List Msg):
  run (callF tab ext M) 0 M (.loop (loopAt 8 1)) (siH a b l acc j k i s n t tx vl vf (msgsC ms) vs k' i' s' tx' vl' vf' [] 0)=some (.exit 2,siE a b l acc j k i s n t tx vl vf (msgsC ms) vs k' i' s' tx' vl' vf' (msgsC ((ms.take 4).map shortM)) (ms.take 4).length):=by
 have el:=msgsC_length ms;refine loop_for (σ:=fun z=>siH a b l acc j k i s n t tx vl vf (msgsC ms) vs k' i' s' tx' vl' vf' (msgsC (((ms.take 4).take z).map shortM)) z) (k:=(ms.take 4).length) (si_canon ..) (fun z hz=>?_) ?_ (by simp) (by grind)
 ·have hj1:z<ms.length:=by rw [qac] at hz;omega
  have hj2:z<4:=by rw [qac] at hz;omega
  have hg:=msgsC_get hj1;have hc:=short_msg ms[z] M (by omega);have hlen:(msgsC (((ms.take 4).take z).map shortM)).length=z:=by rw [msgsC_length,qay,qac,qac];omega
  rw [take_map_succ shortM hz,msgsC_snoc];generalize ms[z]=v at hg hc;generalize shortM v=w at hc;generalize msgsC (((ms.take 4).take z).map shortM)=its' at hlen;obtain ⟨⟨a1,a2⟩,a3,a4,⟨a5,a6,a7,a8,a9,a0⟩⟩:=v;obtain ⟨⟨b1,b2⟩,b3,b4,⟨b5,b6,b7,b8,b9,b0⟩⟩:=w;exact ⟨_,run_of (σ':=siN a b l acc j k i s n t tx vl vf (msgsC ms) vs k' i' s' tx' vl' vf' its' z (Msg.mk ⟨b1,b2⟩ b3 b4 (Val.mk b5 b6 b7 b8 b9 b0)).cells) [(37,.b true),(40,.b true),(49,.e (Msg.mk ⟨a1,a2⟩ a3 a4 (Val.mk a5 a6 a7 a8 a9 a0)).cells),(51,.p (.agg (Msg.mk ⟨b1,b2⟩ b3 b4 (Val.mk b5 b6 b7 b8 b9 b0)).cells)),(53,.app),(43,.i (Int.ofNat (z+1)))] []
   (pf6 (lt_nat (j:=z) (k:=(msgsC ms).length) (by omega)) (lt_lit hj2) hg hc (app_ok (acc:=its') z 5 152 hlen.symm (by omega) (by omega)) (next_nat (j:=z) (by omega))) (lo':=[]) (by kernel_rfl),si_canon' ..⟩
 rw [List.take_length];by_cases h6:(ms.take 4).length<ms.length
 ·have h7:(ms.take 4).length=4:=by rw [qac] at h6 ⊢;omega
  exact run_of [(37,.b true),(40,.b false)] [] (pf2 (lt_nat (j:=(ms.take 4).length) (k:=(msgsC ms).length) (by omega)) (nlt_nat (j:=(ms.take 4).length) (k:=4) (by omega))) (lo':=[]) (by kernel_rfl)
 exact run_of [(37,.b false)] [] (pf1 (nlt_nat (j:=(ms.take 4).length) (k:=(msgsC ms).length) (by omega))) (lo':=[]) (by kernel_rfl)
theorem sw_loop (M:Nat)(hM:40<=M)(a b:Int)(l acc:qaV)(j:Nat)(k i s n t:Int)(tx:qaW)(vl vf its:qaV)(k' i' s':Int)(tx':qaW)(vl' vf' its':qaV)(z2:Nat)(ms:List Val):
  run (callF tab ext M) 0 M (.loop (loopAt 8 2)) (swH a b l acc j k i s n t tx vl vf its (cellsL ms) k' i' s' tx' vl' vf' its' [] 0 z2)=some (.exit 4,swE a b l acc j k i s n t tx vl vf its (cellsL ms) k' i' s' tx' vl' vf' its' (cellsL ((ms.take 4).map (shortV 3))) (ms.take 4).length z2):=by
 have el:=cellsL_length ms;refine loop_for (σ:=fun z=>swH a b l acc j k i s n t tx vl vf its (cellsL ms) k' i' s' tx' vl' vf' its' (cellsL (((ms.take 4).take z).map (shortV 3))) z z2) (k:=(ms.take 4).length) (sw_canon ..) (fun z hz=>?_) ?_ (by simp) (by grind)
 ·have hj1:z<ms.length:=by rw [qac] at hz;omega
  have hj2:z<4:=by rw [qac] at hz;omega
  have hg:=cellsL_get hj1;have hc:=short_val 3 ms[z] M (by omega) (by omega);have hlen:(cellsL (((ms.take 4).take z).map (shortV 3))).length=z:=by rw [cellsL_length,qay,qac,qac];omega
  rw [take_map_succ (shortV 3) hz,cellsL_snoc];generalize ms[z]=v at hg hc;generalize shortV 3 v=w at hc;generalize cellsL (((ms.take 4).take z).map (shortV 3))=vs' at hlen;obtain ⟨a5,a6,a7,a8,a9,a0⟩:=v;obtain ⟨b5,b6,b7,b8,b9,b0⟩:=w;exact ⟨_,run_of (σ':=swN a b l acc j k i s n t tx vl vf its (cellsL ms) k' i' s' tx' vl' vf' its' vs' z z2 (Val.mk b5 b6 b7 b8 b9 b0).cells) [(59,.b true),(62,.b true),(71,.e (Val.mk a5 a6 a7 a8 a9 a0).cells),(73,.p (.agg (Val.mk b5 b6 b7 b8 b9 b0).cells)),(75,.app),(65,.i (Int.ofNat (z+1)))] []
   (pf6 (lt_nat (j:=z) (k:=(cellsL ms).length) (by omega)) (lt_lit hj2) hg hc (app_ok (acc:=vs') z 6 88 hlen.symm (by omega) (by omega)) (next_nat (j:=z) (by omega))) (lo':=[]) (by kernel_rfl),sw_canon' ..⟩
 rw [List.take_length];by_cases h6:(ms.take 4).length<ms.length
 ·have h7:(ms.take 4).length=4:=by rw [qac] at h6 ⊢;omega
  exact run_of [(59,.b true),(62,.b false)] [] (pf2 (lt_nat (j:=(ms.take 4).length) (k:=(cellsL ms).length) (by omega)) (nlt_nat (j:=(ms.take 4).length) (k:=4) (by omega))) (lo':=[]) (by kernel_rfl)
 exact run_of [(59,.b false)] [] (pf1 (nlt_nat (j:=(ms.take 4).length) (k:=(cellsL ms).length) (by omega))) (lo':=[]) (by kernel_rfl)
section
variable (a b:Int) (l acc:qaV) (j:Nat) (k i s n t:Int) (tx:qaW) (vl vf its vs:qaV) (k' i' s':Int) (tx':qaW) (vl' vf' its' vs':qaV) (z z2:Nat) (x:List X)
def ssN:St:=⟨[(1,.ptr 0 0 0),(2,.ptr 1 0 0),(3,.bs 7 0 (j+1)),(4,nat (j+1))],[.var [num a,num b,.sl false 10 l],.var zState,.dead,.var (slotC k i s tx vl vf n t its vs),.var (slotC k' i' s' tx' vl' vf' n t (its'.take z) (vs'.take z2)),.dead,.dead,.row 10 (acc++[slotC k' i' s' tx' vl' vf' n t (its'.take z) (vs'.take z2)])]⟩
theorem ss_canon':canon 0 (ssN a b l acc j k i s n t tx vl vf its vs k' i' s' tx' vl' vf' its' vs' z z2)=some (ssH a b l (acc++[slotC k' i' s' tx' vl' vf' n t (its'.take z) (vs'.take z2)]) (j+1)):=by kernel_rfl
end
theorem ss_loop (M:Nat)(hM:50<=M)(a b:Int)(ss:List Slt)(hτ:canon 0 τ=some (ssH a b (sltsC ss) [] 0)):
  run (callF tab ext M) 0 M (.loop (loopAt 8 0)) τ=some (.exit 0,⟨[(1,.ptr 0 0 0),(2,.ptr 1 0 0),(3,.bs 2 0 (ss.take 6).length),(4,nat (ss.take 6).length),(17,boolX false)],[.var [num a,num b,.sl false 10 (sltsC ss)],.var zState,.row 10 (sltsC ((ss.take 6).map shortL))]⟩):=by
 have el:=sltsC_length ss;refine loop_for (σ:=fun z=>ssH a b (sltsC ss) (sltsC (((ss.take 6).take z).map shortL)) z) (k:=(ss.take 6).length) hτ (fun z hz=>?_) ?_ (by simp) (by grind)
 ·have hj1:z<ss.length:=by rw [qac] at hz;omega
  have hj2:z<6:=by rw [qac] at hz;omega
  have hg:=sltsC_get hj1;have hc:=short_val 2 ss[z].key M (by omega) (by omega);have hlen:(sltsC (((ss.take 6).take z).map shortL)).length=z:=by rw [sltsC_length,qay,qac,qac];omega
  have hi:=fun vl vf k i s tx n t vs k' i' s' tx' vl' vf'=>si_loop M (by omega) a b (sltsC ss) (sltsC (((ss.take 6).take z).map shortL)) z k i s n t tx vl vf vs k' i' s' tx' vl' vf' ss[z].items;have hv:=fun vl vf k i s tx n t its k' i' s' tx' vl' vf' its' z2=>sw_loop M (by omega) a b (sltsC ss) (sltsC (((ss.take 6).take z).map shortL)) z k i s n t tx vl vf its k' i' s' tx' vl' vf' its' z2 ss[z].vals;rw [take_map_succ shortL hz,sltsC_snoc];generalize ss[z]=v at hg hc hi hv;obtain ⟨⟨a1,a2,a3,a4,a5,a6⟩,a7,a8,ms,vs⟩:=v;have e:(shortL ⟨.mk a1 a2 a3 a4 a5 a6,a7,a8,ms,vs⟩).cells=(Slt.mk (shortV 2 (.mk a1 a2 a3 a4 a5 a6)) a7 a8 ((ms.take 4).map shortM) ((vs.take 4).map (shortV 3))).cells:=rfl;rw [e];dsimp only at hc hi hv;generalize shortV 2 (.mk a1 a2 a3 a4 a5 a6)=w at hc;obtain ⟨b1,b2,b3,b4,b5,b6⟩:=w;have l1:(msgsC ((ms.take 4).map shortM)).length=(ms.take 4).length:=by rw [msgsC_length,qay]
  have l2:(cellsL ((vs.take 4).map (shortV 3))).length=(vs.take 4).length:=by rw [cellsL_length,qay]
  have hi':=hi (cellsL a5) (cellsF a6) a1 a2 a3 a4 a7 a8 (cellsL vs) b1 b2 b3 b4 (cellsL b5) (cellsF b6);have hv':=hv (cellsL a5) (cellsF a6) a1 a2 a3 a4 a7 a8 (msgsC ms) b1 b2 b3 b4 (cellsL b5) (cellsF b6) (msgsC ((ms.take 4).map shortM)) (ms.take 4).length;generalize sltsC (((ss.take 6).take z).map shortL)=acc at hlen hi' hv';have e1:(Slt.mk (.mk b1 b2 b3 b4 b5 b6) a7 a8 ((ms.take 4).map shortM) ((vs.take 4).map (shortV 3))).cells=slotC b1 b2 b3 b4 (cellsL b5) (cellsF b6) a7 a8 ((msgsC ((ms.take 4).map shortM)).take (ms.take 4).length) ((cellsL ((vs.take 4).map (shortV 3))).take (vs.take 4).length):=by rw [List.take_of_length_le (Nat.le_of_eq l1),List.take_of_length_le (Nat.le_of_eq l2)];rfl
  rw [e1];generalize msgsC ((ms.take 4).map shortM)=its' at l1 hi' hv';generalize cellsL ((vs.take 4).map (shortV 3))=vs' at l2 hv';generalize (ms.take 4).length=z1 at l1 hi' hv';generalize (vs.take 4).length=z2 at l2 hv';exact ⟨_,run_of (σ':=ssN a b (sltsC ss) acc z a1 a2 a3 a7 a8 a4 (cellsL a5) (cellsF a6) (msgsC ms) (cellsL vs) b1 b2 b3 b4 (cellsL b5) (cellsF b6) its' vs' z1 z2)
   [(13,.b true),(16,.b true),(23,.e (slotC a1 a2 a3 a4 (cellsL a5) (cellsF a6) a7 a8 (msgsC ms) (cellsL vs))),(27,.p (.agg (Val.mk b1 b2 b3 b4 b5 b6).cells)),(80,.app),(19,.i (Int.ofNat (z+1)))]
   [(.exit 2,siE a b (sltsC ss) acc z a1 a2 a3 a7 a8 a4 (cellsL a5) (cellsF a6) (msgsC ms) (cellsL vs) b1 b2 b3 b4 (cellsL b5) (cellsF b6) its' z1),(.exit 4,swE a b (sltsC ss) acc z a1 a2 a3 a7 a8 a4 (cellsL a5) (cellsF a6) (msgsC ms) (cellsL vs) b1 b2 b3 b4 (cellsL b5) (cellsF b6) its' vs' z2 z1)]
   (pf10 (lt_nat (j:=z) (k:=(sltsC ss).length) (by omega)) (lt_lit hj2) hg hc hi' hv' (show 0+z1<=its'.length by omega) (show 0+z2<=vs'.length by omega) (app_ok (acc:=acc) z 2 152 hlen.symm (by omega) (by omega)) (next_nat (j:=z) (by omega))) (lo':=[]) (by kernel_rfl),ss_canon' ..⟩
 rw [List.take_length];by_cases h6:(ss.take 6).length<ss.length
 ·have h7:(ss.take 6).length=6:=by rw [qac] at h6 ⊢;omega
  exact run_of [(13,.b true),(16,.b false)] [] (pf2 (lt_nat (j:=(ss.take 6).length) (k:=(sltsC ss).length) (by omega)) (nlt_nat (j:=(ss.take 6).length) (k:=6) (by omega))) (lo':=[]) (by kernel_rfl)
 exact run_of [(13,.b false)] [] (pf1 (nlt_nat (j:=(ss.take 6).length) (k:=(sltsC ss).length) (by omega))) (lo':=[]) (by kernel_rfl)
theorem short_state (s:Stt)(N:Nat)(hN:60<=N):Gam.pureD (callF tab ext N) 8 [.agg s.cells]=some (.agg (shortS s).cells):=by
 obtain ⟨M,rfl⟩:∃M,N=M+1:=⟨N-1,by omega⟩;obtain ⟨a,b,ss⟩:=s;have hl:=ss_loop M (by omega) a b ss (τ:=⟨[(1,.ptr 0 0 0),(2,.ptr 1 0 0),(3,.bs 2 0 0),(4,num 0)],[.var [num a,num b,.sl false 10 (sltsC ss)],.var zState,.row 10 []]⟩) (by kernel_rfl);have l1:(sltsC ((ss.take 6).map shortL)).length=(ss.take 6).length:=by rw [sltsC_length,qay]
 have e:(shortS ⟨a,b,ss⟩).cells=[num a,num b,.sl false 10 (sltsC ((ss.take 6).map shortL))]:=rfl;rw [e];generalize sltsC ((ss.take 6).map shortL)=acc at l1 hl;generalize (ss.take 6).length=z at l1 hl;have hd:(X.agg [num a,num b,.bs 0 0 z]).data [.row 10 acc] false=some (.agg [num a,num b,.sl false 10 acc]):=by subst l1;simp [X.data,dataL,rowOf,num]
 exact pure_of [] [(.exit 0,⟨[(1,.ptr 0 0 0),(2,.ptr 1 0 0),(3,.bs 2 0 z),(4,nat z),(17,boolX false)],[.var [num a,num b,.sl false 10 (sltsC ss)],.var zState,.row 10 acc]⟩)] (pf1 hl) (x:=.agg [num a,num b,.bs 0 0 z]) (bx:=[.row 10 acc]) (by kernel_rfl) hd
mutual
theorem short_bound:∀(n:Nat) (v:Val),(shortV n v).size<=13^n*2-1
 |0,.mk .. =>by grind[shortV,Val.size,sizeL,sizeF]
 |n+1,.mk k i s t l f=>by
  have h1:∀l:List Val,sizeL (l.map (shortV n))<=l.length*(13^n*2):=fun l=>by
   induction l with
   |nil=>simp [sizeL]
   |cons v l ih=>have:=short_bound n v<;>grind[sizeL,Nat.add_mul]
  have h2:∀l:List (qaW×Val),sizeF (l.map fun p=>(cutT 40 p.1,shortV n p.2))<=l.length*(13^n*2):=fun l=>by
   induction l with
   |nil=>simp [sizeF]
   |cons v l ih=>have:=short_bound n v.2<;>grind[sizeF,Nat.add_mul]
  have g1:=h1 (l.take 6);have g2:=h2 (f.take 6);have e1:(l.take 6).length*(13^n*2)<=6*(13^n*2):=qax _ (by grind);have e2:(f.take 6).length*(13^n*2)<=6*(13^n*2):=qax _ (by rw [qac];omega)<;>grind[shortV,Val.size]
end
theorem short_ok {n:Nat}(v:Val)(h:n<=4):(shortV n v).ok:=by
 have h1:=short_bound n v;have h2:13^n<=13^4:=Nat.pow_le_pow_right (by omega) h;unfold Val.ok
 grind
theorem shortM_ok (m:Msg):(shortM m).ok:=⟨⟨by have:=cutI_length m.st.p;show (cutI m.st.p).length<=60000;omega⟩,by have:=cutI_length m.orig;show (cutI m.orig).length<=60000;omega,short_ok _ (by omega)⟩
theorem shortS_small (s:Stt):(shortS s).small:=by
 refine ⟨?_,fun x hx=>?_⟩;·show ((s.slots.take 6).map shortL).length<=100<;>grind
 obtain ⟨y,hy,rfl⟩:=qaC.1 hx;have h1:((y.items.take 4).map shortM).length<=4:=by rw [qay,qac];omega
 have h2:((y.vals.take 4).map (shortV 3)).length<=4:=by rw [qay,qac];omega
 refine ⟨⟨short_ok _ (by omega),?_,fun m hm=>?_,?_,fun v hv=>?_⟩,?_,?_⟩;·show ((y.items.take 4).map shortM).length<=60000;omega
 ·obtain ⟨m',_,rfl⟩:=qaC.1 hm<;>simp_all[shortM_ok]
 ·show ((y.vals.take 4).map (shortV 3)).length<=60000;omega
 ·obtain ⟨v',_,rfl⟩:=qaC.1 hv<;>simp_all[short_ok]
 ·show ((y.items.take 4).map shortM).length<=100;omega
 show ((y.vals.take 4).map (shortV 3)).length<=100;omega
theorem loop_acc {nIn:Nat}{b:C}{B:Nat}{H:Nat->qaV->St}{k:Nat}{e:Ex}{E:qaV->St}(Q:List X->Prop)(hτ:canon nIn τ=some (H 0 []))
  (hstep:∀j acc,j<k->acc.length=j->∃x υ,Q x/\canon nIn υ=some (H (j+1) (acc++[x]))/\∀M,B<=M->run (callF tab ext M) nIn M b (H j acc)=some (.norm,υ))
  (hend:∀acc,acc.length=k->∀M,B<=M->run (callF tab ext M) nIn M b (H k acc)=some (e,E acc)) (hne:e≠.norm):
  ∃acc:qaV,acc.length=k/\(∀x,x∈acc->Q x)/\∀M,B<=M->k<M->run (callF tab ext M) nIn M (.loop b) τ=some (e,E acc):=by
 have key:∀d j acc,j+d=k->acc.length=j->(∀x,x∈acc->Q x)->∃fin:qaV,fin.length=k/\(∀x,x∈fin->Q x)/\∀M F υ,B<=M->d<F->canon nIn υ=some (H j acc)->iter nIn (run (callF tab ext M) nIn M b) F υ=some (e,E fin):=by
  intro d;induction d with
  |zero=>
   intro j acc hj hacc hq;have hjk:j=k:=by omega
   subst hjk;refine ⟨acc,hacc,hq,fun M F υ hM hF hc=>?_⟩;obtain ⟨F',rfl⟩:∃F',F=F'+1:=⟨F-1,by omega⟩
   grind[iter_end]
  |succ d ih=>intro j acc hj hacc hq;obtain ⟨x,υ,hx,hc,hs⟩:=hstep j acc (by omega) hacc;obtain ⟨fin,hf,hfq,h⟩:=ih (j+1) (acc++[x]) (by omega) (by grind) (fun y hy=>by grind);refine ⟨fin,hf,hfq,fun M F ω hM hF hω=>?_⟩;obtain ⟨F',rfl⟩:∃F',F=F'+1:=⟨F-1,by omega⟩<;>simp_all[iter_step]
 obtain ⟨fin,hf,hfq,h⟩:=key k 0 [] (by omega) rfl (fun x hx=>by grind)
 grind[run]
def kOf (n len K:Nat):Nat:=if n=0 then 0 else min len K
theorem kOf_le (n len K:Nat):kOf n len K<=len/\kOf n len K<=K:=by grind[kOf]
def isVal (c:List X):Prop:=∃v:Val,c=v.cells
def isExp:Nat->List X->Prop
 |0,c=>∃o i t vs es,c=[num o,num i,strX t,.sl false 6 vs,.sl false 5 es]/\∀x,x∈vs->isVal x
 |n+1,c=>∃o i t vs es,c=[num o,num i,strX t,.sl false 6 vs,.sl false 5 es]/\(∀x,x∈vs->isVal x)/\∀x,x∈es->isExp n x
theorem isExp_zero:∀{n:Nat} {c:List X},isExp n c->isExp 0 c
 |0,_,h=>h
 |_+1,_,⟨o,i,t,vs,es,h1,h2,_⟩=>⟨o,i,t,vs,es,h1,h2⟩
def zExp:List X:=[num 0,num 0,noText,.sl true 6 [],.sl true 5 []]
def expC (o i:Int)(t:qaW)(vs es:qaV):List X:=[num o,num i,strX t,.sl false 6 vs,.sl false 5 es]
def sE:Nat->List X->Prop
 |0,_=>False
 |h+1,x=>∃o i t vs es,x=expC o i t vs es/\t.size<=60/\vs.length<=2/\(∀v,v∈vs->∃w:Val,v=(shortV 1 w).cells)/\es.length<=4/\∀e,e∈es->sE h e
theorem cutT_le (n:Nat)(t:qaW):(cutT n t).size<=n:=by grind[cutT,ByteArray.size_extract]
section
variable (n:Nat) (o i:Int) (t:qaW) (l f:qaV) (acc:qaV) (j:Nat) (x:List X)
def xvH:St:=⟨[(1,num (Int.ofNat (n+1))),(2,.ptr 0 0 0),(4,.ptr 1 0 0),(5,.bs 2 0 j),(6,nat j)],[.var (expC o i t l f),.var zExp,.row 6 acc]⟩
def xvN:St:=⟨[(1,num (Int.ofNat (n+1))),(2,.ptr 0 0 0),(4,.ptr 1 0 0),(5,.bs 3 0 (j+1)),(6,nat (j+1))],[.var (expC o i t l f),.var zExp,.dead,.row 6 (acc++[x])]⟩
def xvE:St:=⟨[(1,num (Int.ofNat (n+1))),(2,.ptr 0 0 0),(4,.ptr 1 0 0),(5,.bs 2 0 j),(6,nat j),(25,boolX false)],[.var (expC o i t l f),.var zExp,.row 6 acc]⟩
theorem xv_canon:canon 0 (xvN n o i t l f acc j x)=some (xvH n o i t l f (acc++[x]) (j+1)):=by kernel_rfl
end
theorem xv_loop (n:Nat)(o i:Int)(t:qaW)(l f:qaV)(hl:∀x,x∈l->isVal x)(hτ:canon 0 τ=some (xvH n o i t l f [] 0)):∃acc,acc.length=min l.length 2/\(∀x,x∈acc->(fun x=>∃w:Val,x=(shortV 1 w).cells) x)/\∀M,40<=M->run (callF tab ext M) 0 M (.loop (loopAt 87 0)) τ=some (.exit 0,xvE n o i t l f acc (min l.length 2)):=by
 have hK:min l.length 2<=2:=by exact Nat.min_le_right _ _
 have key:∃acc:qaV,acc.length=min l.length 2/\(∀x,x∈acc->(fun x=>∃w:Val,x=(shortV 1 w).cells) x)/\∀M,40<=M->min l.length 2<M->run (callF tab ext M) 0 M (.loop (loopAt 87 0)) τ=some (.exit 0,xvE n o i t l f acc (min l.length 2)):=?_
 ·grind
 refine loop_acc (nIn:=0) (b:=loopAt 87 0) (B:=40) (H:=fun j acc=>xvH n o i t l f acc j) (k:=min l.length 2) (e:=.exit 0) (E:=fun acc=>xvE n o i t l f acc (min l.length 2)) (fun x=>∃w:Val,x=(shortV 1 w).cells) hτ (fun j acc hj hacc=>?_) (fun acc hacc M hM=>?_) (by simp)
 ·have hj1:j<l.length:=by omega
  have hj2:j<2:=by omega
  obtain ⟨v,hv⟩:=hl _ (qal hj1);have hg:l[j]?=some v.cells:=by rw [qad hj1,hv]
  have hc:=short_val 1 v;generalize hw:shortV 1 v=w at hc;obtain ⟨a1,a2,a3,a4,a5,a6⟩:=v;obtain ⟨b1,b2,b3,b4,b5,b6⟩:=w;exact ⟨(Val.mk b1 b2 b3 b4 b5 b6).cells,xvN n o i t l f acc j ((Val.mk b1 b2 b3 b4 b5 b6).cells),⟨_,by rw [hw]⟩,xv_canon ..,fun M hM=>run_of [(21,.b true),(24,.b true),(32,.e (Val.mk a1 a2 a3 a4 a5 a6).cells),(34,.p (.agg (Val.mk b1 b2 b3 b4 b5 b6).cells)),(36,.app),(27,.i (Int.ofNat (j+1)))] [] (pf6 (lt_nat (j:=j) (k:=l.length) hj1) (lt_lit hj2) hg (hc M (by omega) (by omega)) (app_ok (acc:=acc) j 2 88 hacc.symm (by omega) (by omega)) (next_nat (j:=j) (by omega))) (lo':=[]) (by kernel_rfl)⟩
 generalize hq:min l.length 2=q;by_cases h6:q<l.length;·exact run_of [(21,.b true),(24,.b false)] [] (pf2 (lt_nat (j:=q) (k:=l.length) h6) (nlt_nat (j:=q) (k:=2) (by omega))) (lo':=[]) (by kernel_rfl)
 exact run_of [(21,.b false)] [] (pf1 (nlt_nat (j:=q) (k:=l.length) h6)) (lo':=[]) (by kernel_rfl)
section
variable (n:Nat) (o i:Int) (t:qaW) (l f acc0:qaV) (m:Nat) (acc:qaV) (j:Nat) (x:List X)
def xaH:St:=⟨[(1,num (Int.ofNat (n+1))),(2,.ptr 0 0 0),(4,.ptr 1 0 0),(5,.bs 2 0 m),(7,.bs 3 0 j),(8,nat j)],[.var (expC o i t l f),.var zExp,.row 6 acc0,.row 5 acc]⟩
def xaN:St:=⟨[(1,num (Int.ofNat (n+1))),(2,.ptr 0 0 0),(4,.ptr 1 0 0),(5,.bs 2 0 m),(7,.bs 4 0 (j+1)),(8,nat (j+1))],[.var (expC o i t l f),.var zExp,.row 6 acc0,.dead,.row 5 (acc++[x])]⟩
def xaE:St:=⟨[(1,num (Int.ofNat (n+1))),(2,.ptr 0 0 0),(4,.ptr 1 0 0),(5,.bs 2 0 m),(7,.bs 3 0 j),(8,nat j),(49,boolX false)],[.var (expC o i t l f),.var zExp,.row 6 acc0,.row 5 acc]⟩
theorem xa_canon:canon 0 (xaN n o i t l f acc0 m acc j x)=some (xaH n o i t l f acc0 m (acc++[x]) (j+1)):=by kernel_rfl
end
theorem xa_loop (n:Nat)(o i:Int)(t:qaW)(l f acc0:qaV)(m:Nat)(hn:n<1000)(hf:∀m,n=m+1->∀x,x∈f->∃o i t vs es o' i' t' vs' es',x=expC o i t vs es/\sE n (expC o' i' t' vs' es')/\∀N,50+n<=N->Gam.pureD (callF tab ext N) 87 [.agg (expC o i t vs es),nat (m+1)]=some (.agg (expC o' i' t' vs' es')))(hτ:canon 0 τ=some (xaH n o i t l f acc0 m [] 0)):∃acc,acc.length=kOf n f.length 4/\(∀x,x∈acc->(sE n) x)/\∀M,(50+n)<=M->run (callF tab ext M) 0 M (.loop (loopAt 87 1)) τ=some (.exit 2,xaE n o i t l f acc0 m acc (kOf n f.length 4)):=by
 have hkk:kOf n f.length 4<=f.length/\kOf n f.length 4<=4:=kOf_le ..;have hK:kOf n f.length 4<=4:=by omega
 have key:∃acc:qaV,acc.length=kOf n f.length 4/\(∀x,x∈acc->(sE n) x)/\∀M,(50+n)<=M->kOf n f.length 4<M->run (callF tab ext M) 0 M (.loop (loopAt 87 1)) τ=some (.exit 2,xaE n o i t l f acc0 m acc (kOf n f.length 4)):=?_
 ·grind
 refine loop_acc (nIn:=0) (b:=loopAt 87 1) (B:=(50+n)) (H:=fun j acc=>xaH n o i t l f acc0 m acc j) (k:=kOf n f.length 4) (e:=.exit 2) (E:=fun acc=>xaE n o i t l f acc0 m acc (kOf n f.length 4)) (sE n) hτ (fun j acc hj hacc=>?_) (fun acc hacc M hM=>?_) (by simp)
 ·have hj1:j<f.length:=by omega
  have hj2:j<4:=by omega
  obtain ⟨n,rfl⟩:∃m,n=m+1:=by
   cases n with
   |zero=>grind[kOf]
   |succ m=>grind
  obtain ⟨o1,i1,t1,v1,e1,o2,i2,t2,v2,e2,hv,hs,hc⟩:=hf n rfl _ (qal hj1);have hg:f[j]?=some (expC o1 i1 t1 v1 e1):=by rw [qad hj1,hv]
  exact ⟨(expC o2 i2 t2 v2 e2),xaN (n+1) o i t l f acc0 m acc j ((expC o2 i2 t2 v2 e2)),hs,xa_canon ..,fun M hM=>run_of [(41,.b true),(44,.b true),(48,.b true),(56,.e (expC o1 i1 t1 v1 e1)),(59,.i (Int.ofNat (n+1))),(60,.p (.agg (expC o2 i2 t2 v2 e2))),(62,.app),(51,.i (Int.ofNat (j+1)))] [] (pf8 (lt_nat (j:=j) (k:=f.length) hj1) (lt_lit hj2) (gt_one n) hg (dec_nat (j:=n+1) (by omega)) (hc M (by omega)) (app_ok (acc:=acc) j 3 80 hacc.symm (by omega) (by omega)) (next_nat (j:=j) (by omega))) (lo':=[]) (by kernel_rfl)⟩
 cases n with
 |zero=>
  have e0:kOf 0 f.length 4=0:=rfl;rw [e0];cases h1:decide (Int.ofNat 0<Int.ofNat f.length) with
  |true=>exact run_of [(41,.b true)] [] (pf1 h1) (lo':=[]) (by kernel_rfl)
  |false=>exact run_of [(41,.b false)] [] (pf1 h1) (lo':=[]) (by kernel_rfl)
 |succ n=>
  have e1:kOf (n+1) f.length 4=min f.length 4:=rfl;rw [e1];generalize hq:min f.length 4=q;by_cases h6:q<f.length;·exact run_of [(41,.b true),(44,.b false)] [] (pf2 (lt_nat (j:=q) (k:=f.length) h6) (nlt_nat (j:=q) (k:=4) (by omega))) (lo':=[]) (by kernel_rfl)
  exact run_of [(41,.b false)] [] (pf1 (nlt_nat (j:=q) (k:=f.length) h6)) (lo':=[]) (by kernel_rfl)
theorem short_exp:∀(n:Nat) (c:List X),n<1000->isExp n c->∃o i t vs es o' i' t' vs' es',c=expC o i t vs es/\sE (n+1) (expC o' i' t' vs' es')/\∀N,50+(n+1)<=N->Gam.pureD (callF tab ext N) 87 [.agg (expC o i t vs es),nat (n+1)]=some (.agg (expC o' i' t' vs' es')):=by
 intro n;induction n with
 |zero=>
  rintro c hn ⟨o,i,t,l,f,rfl,hl⟩
  obtain ⟨acc,h1,p1,h2⟩:=xv_loop 0 o i (cutT 60 t) l f hl (τ:=⟨[(1,num (Int.ofNat (0+1))),(2,.ptr 0 0 0),(4,.ptr 1 0 0),(5,.bs 2 0 0),(6,nat 0)],[.var (expC o i (cutT 60 t) l f),.var zExp,.row 6 []]⟩) (by kernel_rfl);have q1:min l.length 2<=2:=Nat.min_le_right _ _;generalize min l.length 2=m at h1 h2 q1;obtain ⟨acc2,h3,p2,h4⟩:=xa_loop 0 o i (cutT 60 t) l f acc m (by omega) (fun m hm=>by omega) (τ:=⟨[(1,num (Int.ofNat (0+1))),(2,.ptr 0 0 0),(4,.ptr 1 0 0),(5,.bs 2 0 m),(7,.bs 3 0 0),(8,nat 0)],[.var (expC o i (cutT 60 t) l f),.var zExp,.row 6 acc,.row 5 []]⟩) (by kernel_rfl);have q2:=(kOf_le 0 f.length 4).2;generalize kOf 0 f.length 4=q at h3 h4 q2;refine ⟨o,i,t,l,f,o,i,cutT 60 t,acc,acc2,rfl,⟨o,i,cutT 60 t,acc,acc2,rfl,cutT_le 60 t,by omega,p1,by omega,p2⟩,fun N hN=>?_⟩;obtain ⟨M,rfl⟩:∃M,N=M+1:=⟨N-1,by omega⟩;have hd:(X.agg [num o,num i,strX (cutT 60 t),.bs 0 0 m,.bs 1 0 q]).data [.row 6 acc,.row 5 acc2] false=some (.agg (expC o i (cutT 60 t) acc acc2)):=by subst h1 h3;simp [X.data,dataL,rowOf,num,strX,expC]
  exact pure_of [(14,.i (Int.ofNat (min t.size 60))),(15,.cut)] [(.exit 0,xvE 0 o i (cutT 60 t) l f acc m),(.exit 2,xaE 0 o i (cutT 60 t) l f acc m acc2 q)] (pf4 (min_int t.size 60) (cut_ok t.size 60) (h2 M (by omega)) (h4 M (by omega)))
   (x:=.agg [num o,num i,strX (cutT 60 t),.bs 0 0 m,.bs 1 0 q]) (bx:=[.row 6 acc,.row 5 acc2]) (by kernel_rfl) hd
 |succ n ih=>
  rintro c hn ⟨o,i,t,l,f,rfl,hl,hf⟩
  obtain ⟨acc,h1,p1,h2⟩:=xv_loop (n+1) o i (cutT 60 t) l f hl (τ:=⟨[(1,num (Int.ofNat (n+1+1))),(2,.ptr 0 0 0),(4,.ptr 1 0 0),(5,.bs 2 0 0),(6,nat 0)],[.var (expC o i (cutT 60 t) l f),.var zExp,.row 6 []]⟩) (by kernel_rfl);have q1:min l.length 2<=2:=Nat.min_le_right _ _;generalize min l.length 2=m at h1 h2 q1;obtain ⟨acc2,h3,p2,h4⟩:=xa_loop (n+1) o i (cutT 60 t) l f acc m (by omega) (fun m hm x hx=>by grind) (τ:=⟨[(1,num (Int.ofNat (n+1+1))),(2,.ptr 0 0 0),(4,.ptr 1 0 0),(5,.bs 2 0 m),(7,.bs 3 0 0),(8,nat 0)],[.var (expC o i (cutT 60 t) l f),.var zExp,.row 6 acc,.row 5 []]⟩) (by kernel_rfl);have q2:=(kOf_le (n+1) f.length 4).2;generalize kOf (n+1) f.length 4=q at h3 h4 q2;refine ⟨o,i,t,l,f,o,i,cutT 60 t,acc,acc2,rfl,⟨o,i,cutT 60 t,acc,acc2,rfl,cutT_le 60 t,by omega,p1,by omega,p2⟩,fun N hN=>?_⟩;obtain ⟨M,rfl⟩:∃M,N=M+1:=⟨N-1,by omega⟩;have hd:(X.agg [num o,num i,strX (cutT 60 t),.bs 0 0 m,.bs 1 0 q]).data [.row 6 acc,.row 5 acc2] false=some (.agg (expC o i (cutT 60 t) acc acc2)):=by subst h1 h3;simp [X.data,dataL,rowOf,num,strX,expC]
  exact pure_of [(14,.i (Int.ofNat (min t.size 60))),(15,.cut)] [(.exit 0,xvE (n+1) o i (cutT 60 t) l f acc m),(.exit 2,xaE (n+1) o i (cutT 60 t) l f acc m acc2 q)] (pf4 (min_int t.size 60) (cut_ok t.size 60) (h2 M (by omega)) (h4 M (by omega)))
   (x:=.agg [num o,num i,strX (cutT 60 t),.bs 0 0 m,.bs 1 0 q]) (bx:=[.row 6 acc,.row 5 acc2]) (by kernel_rfl) hd
def isRule (c:List X):Prop:=∃t e,c=strX t::e/\isExp 3 e
def isRul0 (c:List X):Prop:=∃s o i t vs es,c=[strX s,num o,num i,strX t,.sl false 6 vs,.sl false 5 es]/\s.size<=60/\sE 4 (expC o i t vs es)
def ruleC (s:qaW)(o i:Int)(t:qaW)(vs es:qaV):List X:=[strX s,num o,num i,strX t,.sl false 6 vs,.sl false 5 es]
section
variable (l:qaV) (acc:qaV) (j:Nat) (x:List X)
def ruH:St:=⟨[(1,.ptr 0 0 0),(2,.ptr 1 0 0),(3,.ptr 2 0 0),(4,nat j)],[.var [.sl false 6 l],.var [.sl true 6 []],.var [.bs 3 0 j],.row 6 acc]⟩
def ruN:St:=⟨[(1,.ptr 0 0 0),(2,.ptr 1 0 0),(3,.ptr 2 0 0),(4,nat (j+1))],[.var [.sl false 6 l],.var [.sl true 6 []],.var [.bs 4 0 (j+1)],.dead,.row 6 (acc++[x])]⟩
def ruE:St:=⟨[(1,.ptr 0 0 0),(2,.ptr 1 0 0),(3,.ptr 2 0 0),(4,nat j),(13,boolX false)],[.var [.sl false 6 l],.var [.sl true 6 []],.var [.bs 3 0 j],.row 6 acc]⟩
theorem ru_canon:canon 0 (ruN l acc j x)=some (ruH l (acc++[x]) (j+1)):=by kernel_rfl
end
theorem ru_loop (l:qaV)(hl:∀x,x∈l->isRule x)(hτ:canon 0 τ=some (ruH l [] 0)):∃acc,acc.length=min l.length 8/\(∀x,x∈acc->(isRul0) x)/\∀M,100<=M->run (callF tab ext M) 0 M (.loop (loopAt 48 0)) τ=some (.exit 0,ruE l acc (min l.length 8)):=by
 have hK:min l.length 8<=8:=by exact Nat.min_le_right _ _
 have key:∃acc:qaV,acc.length=min l.length 8/\(∀x,x∈acc->(isRul0) x)/\∀M,100<=M->min l.length 8<M->run (callF tab ext M) 0 M (.loop (loopAt 48 0)) τ=some (.exit 0,ruE l acc (min l.length 8)):=?_
 ·grind
 refine loop_acc (nIn:=0) (b:=loopAt 48 0) (B:=100) (H:=fun j acc=>ruH l acc j) (k:=min l.length 8) (e:=.exit 0) (E:=fun acc=>ruE l acc (min l.length 8)) (isRul0) hτ (fun j acc hj hacc=>?_) (fun acc hacc M hM=>?_) (by simp)
 ·have hj1:j<l.length:=by omega
  have hj2:j<8:=by omega
  obtain ⟨s,e,hv,he⟩:=hl _ (qal hj1);obtain ⟨o1,i1,t1,v1,e1,o2,i2,t2,v2,e2,rfl,hs,hc⟩:=short_exp 3 e (by omega) he;have hg:l[j]?=some (ruleC s o1 i1 t1 v1 e1):=by rw [qad hj1,hv];rfl
  exact ⟨(ruleC (cutT 60 s) o2 i2 t2 v2 e2),ruN l acc j ((ruleC (cutT 60 s) o2 i2 t2 v2 e2)),⟨cutT 60 s,o2,i2,t2,v2,e2,rfl,cutT_le 60 s,hs⟩,ru_canon ..,fun M hM=>run_of [(9,.b true),(12,.b true),(21,.e (ruleC s o1 i1 t1 v1 e1)),(27,.e (ruleC s o1 i1 t1 v1 e1)),(31,.i (Int.ofNat (min s.size 60))),(32,.cut),(36,.e (ruleC s o1 i1 t1 v1 e1)),(39,.p (.agg (expC o2 i2 t2 v2 e2))),(42,.app),(15,.i (Int.ofNat (j+1)))] [] (pf10 (lt_nat (j:=j) (k:=l.length) hj1) (lt_lit hj2) hg hg (min_int s.size 60) (cut_ok s.size 60) hg (hc M (by omega)) (app_ok (acc:=acc) j 3 96 hacc.symm (by omega) (by omega)) (next_nat (j:=j) (by omega))) (lo':=[]) (by kernel_rfl)⟩
 generalize hq:min l.length 8=q;by_cases h6:q<l.length;·exact run_of [(9,.b true),(12,.b false)] [] (pf2 (lt_nat (j:=q) (k:=l.length) h6) (nlt_nat (j:=q) (k:=8) (by omega))) (lo':=[]) (by kernel_rfl)
 exact run_of [(9,.b false)] [] (pf1 (nlt_nat (j:=q) (k:=l.length) h6)) (lo':=[]) (by kernel_rfl)
theorem short_map (l:qaV)(hl:∀x,x∈l->isRule x):∃l',l'.length<=8/\(∀x,x∈l'->isRul0 x)/\∀N,110<=N->Gam.pureD (callF tab ext N) 48 [.agg [.sl false 6 l]]=some (.agg [.sl false 6 l']):=by
 obtain ⟨acc,h1,hq,h2⟩:=ru_loop l hl (τ:=⟨[(1,.ptr 0 0 0),(2,.ptr 1 0 0),(3,.ptr 2 0 0),(4,nat 0)],[.var [.sl false 6 l],.var [.sl true 6 []],.var [.bs 3 0 0],.row 6 []]⟩) (by kernel_rfl);have hk:min l.length 8<=8:=Nat.min_le_right _ _;generalize min l.length 8=m at h1 h2 hk;refine ⟨acc,by omega,hq,fun N hN=>?_⟩;obtain ⟨M,rfl⟩:∃M,N=M+1:=⟨N-1,by omega⟩;have hd:(X.agg [.bs 0 0 m]).data [.row 6 acc] false=some (.agg [.sl false 6 acc]):=by subst h1;simp [X.data,dataL,rowOf]
 exact pure_of [] [(.exit 0,ruE l acc m)] (pf1 (h2 M (by omega))) (x:=.agg [.bs 0 0 m]) (bx:=[.row 6 acc]) (by kernel_rfl) hd
end Go.Proofs.YtonnphbfclaigaaGreatDoor
