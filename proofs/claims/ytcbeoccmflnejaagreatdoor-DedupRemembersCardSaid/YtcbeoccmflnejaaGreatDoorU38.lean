/-.-/
import Derived.WalkKit
import Derived.Deep.LoopGhost
import Derived.Shelf.Spec.SlicesInsertGrow
import Derived.Test.YtcbeoccmflnejaaGreatDoorU32
import Derived.Test.YtcbeoccmflnejaaGreatDoorU35
import Derived.Test.YtcbeoccmflnejaaGreatDoorU36
set_option linter.all false
namespace Go.Proofs.YtcbeoccmflnejaaGreatDoor
open Go Go.Em Go.Ab
set_option maxRecDepth 100000
open Go.Em
namespace Ct
def okV (y:List X):Prop:=∃(a b c:Int) (s:qaX) (l f:qaW),y=Pj a b c s l f/\∃H,D T H 1 y
end Ct
namespace Ct
def keyE (k:Val)(e:Int):Int:=if e==0&&dw k then 19 else e
theorem Rl (nd:Nod)(hs:nd.small)(v:Val):∃(k:Val) (e:Int),(k.wide/\0<=e/\e<=100)/\∃B,∀N,B<=N->Gam.pureD (callF tab ext N) 42 [.agg (qx nd 0),.agg (zdo (aS 4 v)).cells]=some (.tup [.agg k.cells,num e]):=by obtain ⟨o,i,t,j,f,e,a⟩:=Jz nd hs 0;rw [e];exact Yh (h:=4) (by decide) (FB 4 _ a) (zjS v)
def jr:qaX:=⟨#[100,117,112,108,105,99,97,116,101]⟩
def gG:qaX:=⟨#[102,117,108,108]⟩
section
variable (nd:Nod) (hs:nd.small) (m:Msg) (hm:m.body.ok) (k:Val) (e0:Int) (N:Nat) (hN:200500<=N) (iI:Gam.pureD (callF tab ext N) 42 [.agg (qx nd 0),.agg (zdo m.body).cells]=some (.tup [.agg k.cells,num e0]))
include hs hm hN iI
theorem zbE:Gam.pureD (callF tab ext (N+1)) 35 [.agg nd.cells,.agg m.cells]=some (.tup [.agg k.cells,num (keyE k e0)]):=by
 have E:=LD m.body hm N (by omega);obtain ⟨K,rfl⟩:=pR_ N;have jT:=nD K k;obtain ⟨o,i,S,U,P,A,_⟩:=Jz nd hs 0;generalize zdo m.body=v at E iI;rw [A] at iI;unfold keyE;obtain ⟨⟨e,p⟩,q,og,⟨Z,a2,a3,a4,a5,a6⟩⟩:=m;obtain ⟨V,k1,k2,k3,w,k5,k6,W,⟨a,b,c,d⟩,we,el,f,ty,Y,ca,ru,ne⟩:=nd;obtain ⟨F,H,J,L,M,O⟩:=v;generalize dw k=g at jT ⊢;obtain ⟨h,j,l,n,u,y⟩:=k;cases Y with
 |nil=>
  have A:gu 0 0 ⟨#[]⟩ [] []=gu o i S U P:=A;rw [<-A] at iI;cases B:(e0==0) with
  |true=>
   cases g with
   |true=>exact puA [(21,.p (.agg (Val.mk F H J L M O).cells)),(22,.p (.tup [.agg (Val.mk h j l n u y).cells,num e0])),(26,.b true),(29,.p (boolX true))] (pf4 E iI B jT) (.tup [.agg (Val.mk h j l n u y).cells,num 19])
   |false=>exact puA [(21,.p (.agg (Val.mk F H J L M O).cells)),(22,.p (.tup [.agg (Val.mk h j l n u y).cells,num e0])),(26,.b true),(29,.p (boolX false))] (pf4 E iI B jT) (.tup [.agg (Val.mk h j l n u y).cells,num e0])
  |false=>exact puA [(21,.p (.agg (Val.mk F H J L M O).cells)),(22,.p (.tup [.agg (Val.mk h j l n u y).cells,num e0])),(26,.b false)] (pf3 E iI B) (.tup [.agg (Val.mk h j l n u y).cells,num e0])
 |cons x r=>
  have A:x=gu o i S U P:=A;subst A;have Q:decide (Int.ofNat (gu o i S U P::r).length>0)=true:=decide_eq_true (by simp only [qat,qaq];omega);cases B:(e0==0) with
  |true=>
   cases g with
   |true=>exact puA [(12,.b true),(21,.p (.agg (Val.mk F H J L M O).cells)),(22,.p (.tup [.agg (Val.mk h j l n u y).cells,num e0])),(26,.b true),(29,.p (boolX true))] (pf5 Q E iI B jT) (.tup [.agg (Val.mk h j l n u y).cells,num 19])
   |false=>exact puA [(12,.b true),(21,.p (.agg (Val.mk F H J L M O).cells)),(22,.p (.tup [.agg (Val.mk h j l n u y).cells,num e0])),(26,.b true),(29,.p (boolX false))] (pf5 Q E iI B jT) (.tup [.agg (Val.mk h j l n u y).cells,num e0])
  |false=>exact puA [(12,.b true),(21,.p (.agg (Val.mk F H J L M O).cells)),(22,.p (.tup [.agg (Val.mk h j l n u y).cells,num e0])),(26,.b false)] (pf4 Q E iI B) (.tup [.agg (Val.mk h j l n u y).cells,num e0])
end
theorem jM (s:Stt)(hs:s.ok)(nd:Nod)(m:Msg)(hm:m.ok)(r:qaX)(N:Nat)(hN:190700<=N):
  Gam.pureD (callF tab ext N) 33 [.agg s.cells,.sl false 1 [[.fn 80 [.dp m.cells,.dp nd.cells,.dp [strX r]]]]]=some (.agg (fC false s m nd.name r)):=by
 obtain ⟨M,rfl⟩:∃M,N=M+51:=⟨N-51,by omega⟩;have A:=iJ (M+50) s hs (by omega);have y:=pR m hm nd.name r (M+49) (by omega);obtain ⟨⟨e,p⟩,q,o,⟨h,j,l,n,u,w⟩⟩:=m;obtain ⟨a,b,f⟩:=s;have B:callF tab ext (M+50) (.fn 80) [.ptr 0 0 0,.dp (Msg.mk ⟨e,p⟩ q o (.mk h j l n u w)).cells,.dp nd.cells,.dp [strX r]] [.var [num a,num b,.sl false 10 (ak f),.sl true 11 [],.sl true 11 [],.sl true 6 [],.sl true 10 []]]=some (.tup [],[.var [num a,num b,.sl false 10 (ak f),.sl true 11 [],.sl true 11 [],.bs 1 0 1,.bs 2 0 1],.row 6 [(Fte.mk ⟨e,p⟩ 4 nd.name [] r).cells],.row 10 [(Msg.mk ⟨e,p⟩ q o (.mk h j l n u w)).cells]]):=
  caA [(14,.p (.agg (Fte.mk ⟨e,p⟩ 4 nd.name [] r).cells))] (pf1 y)
 exact pure_of [(9,.p (.agg (Stt.mk a b f).cells)),(18,.r (.tup []) [.var [num a,num b,.sl false 10 (ak f),.sl true 11 [],.sl true 11 [],.bs 1 0 1,.bs 2 0 1],.row 6 [(Fte.mk ⟨e,p⟩ 4 nd.name [] r).cells],.row 10 [(Msg.mk ⟨e,p⟩ q o (.mk h j l n u w)).cells]])] [] (pf2 A B)
  (x:=.agg [num a,num b,.sl false 10 (ak f),.sl true 11 [],.sl true 11 [],.bs 0 0 1,.bs 1 0 1]) (bx:=[.row 6 [(Fte.mk ⟨e,p⟩ 4 nd.name [] r).cells],.row 10 [(Msg.mk ⟨e,p⟩ q o (.mk h j l n u w)).cells]]) (by kernel_rfl) rfl
theorem BZ (s:Stt)(hs:s.ok)(s':Stt)(m:Msg)(N:Nat)(hN:190700<=N):
  Gam.pureD (callF tab ext N) 33 [.agg s.cells,.sl false 1 [[.fn 89 [.dp s'.cells]],[.fn 90 [.dp m.cells]]]]=some (.agg (G6 s' m 0)):=by
 obtain ⟨M,rfl⟩:∃M,N=M+301:=⟨N-301,by omega⟩;have B:=iJ (M+300) s hs (by omega);obtain ⟨⟨e,p⟩,q,o,⟨j,l,n,u,w,y⟩⟩:=m;obtain ⟨a,b,E⟩:=s;obtain ⟨h,A,f⟩:=s';exact pure_of [(9,.p (.agg (Stt.mk a b E).cells))] [] (pf1 B) (x:=.agg [num h,num A,.sl false 10 (ak f),.bs 0 0 1,.sl true 11 [],.sl true 6 [],.sl true 10 []])
  (bx:=[.row 11 [num 0::(Msg.mk ⟨e,p⟩ q o (.mk j l n u w y)).cells]]) (by kernel_rfl) rfl
end Ct
namespace Ct
section
variable (nd:Nod) (s:Stt) (i:Inp) (k:Val) (e:Int) (K:Nat) (r:qaX) (x:Slt)
section
variable (h98:Gam.pureD (callF tab ext (K+320)) 34 [.agg i.m.cells]=some (.agg i.m.cells)) (h99:Gam.pureD (callF tab ext (K+320)) 35 [.agg nd.cells,.agg i.m.cells]=some (.tup [.agg k.cells,num e]))
include h98 h99
theorem Wp (he:(e !=0)=true)(XV:Gam.pureD (callF tab ext (K+320)) 37 [num e]=some (strX r))(h97:Gam.pureD (callF tab ext (K+320)) 33 [.agg s.cells,.sl false 1 [[.fn 80 [.dp i.m.cells,.dp nd.cells,.dp [strX r]]]]]=some (.agg (fC false s i.m nd.name r))):
  Gam.pureD (callF tab ext (K+321)) 10 [.agg nd.cells,.agg s.cells,.agg ({i with kind:=1}:Inp).cells]=some (.agg (fC false s i.m nd.name r)):=by
 obtain ⟨W,tm,⟨Y,Z⟩,⟨⟨u,p⟩,w,o,⟨a,f,h,j,l,q⟩⟩,y,M,N,⟨O,P,Q,S,U,V⟩⟩:=i;obtain ⟨n,t,A⟩:=s;obtain ⟨B,E,F,H,J,L⟩:=k;exact puA [(21,.p (.agg (Msg.mk ⟨u,p⟩ w o (.mk a f h j l q)).cells)),(25,.p (.tup [.agg (Val.mk B E F H J L).cells,num e])),(29,.b true),(34,.p (strX r)),(37,.p (.agg (fC false (Stt.mk n t A) (Msg.mk ⟨u,p⟩ w o (.mk a f h j l q)) nd.name r)))] (pf5 h98 h99 he XV h97) (.agg (fC false (Stt.mk n t A) (Msg.mk ⟨u,p⟩ w o (.mk a f h j l q)) nd.name r))
variable (he:(e !=0)=false)
include he
theorem Wq (zi:Gam.pureD (callF tab ext (K+320)) 38 [.agg s.cells,.agg k.cells]=some (.tup [.agg x.cells,boolX true]))(h97:Gam.pureD (callF tab ext (K+320)) 33 [.agg s.cells,.sl false 1 [[.fn 80 [.dp i.m.cells,.dp nd.cells,.dp [strX jr]]]]]=some (.agg (fC false s i.m nd.name jr))):
  Gam.pureD (callF tab ext (K+321)) 10 [.agg nd.cells,.agg s.cells,.agg ({i with kind:=1}:Inp).cells]=some (.agg (fC false s i.m nd.name jr)):=by
 obtain ⟨kd,tm,⟨se,sp⟩,⟨⟨u,p⟩,w,o,⟨a,f,h,j,l,q⟩⟩,y,Z,b2,⟨c1,c2,c3,c4,c5,c6⟩⟩:=i;obtain ⟨n,t,A⟩:=s;obtain ⟨B,E,F,H,J,L⟩:=k;obtain ⟨⟨M,N,O,P,Q,S⟩,V,W,U,Y⟩:=x;exact puA [(21,.p (.agg (Msg.mk ⟨u,p⟩ w o (.mk a f h j l q)).cells)),(25,.p (.tup [.agg (Val.mk B E F H J L).cells,num e])),(29,.b false),(41,.p (.tup [.agg (Slt.mk ⟨M,N,O,P,Q,S⟩ V W U Y).cells,boolX true])),(50,.p (.agg (fC false (Stt.mk n t A) (Msg.mk ⟨u,p⟩ w o (.mk a f h j l q)) nd.name jr)))] (pf5 h98 h99 he zi h97) (.agg (fC false (Stt.mk n t A) (Msg.mk ⟨u,p⟩ w o (.mk a f h j l q)) nd.name jr))
variable (zi:Gam.pureD (callF tab ext (K+320)) 38 [.agg s.cells,.agg k.cells]=some (.tup [.agg x.cells,boolX false]))
include zi
theorem QM (Jj:Gam.pureD (callF tab ext (K+320)) 39 [.agg nd.cells,.agg s.cells,.agg k.cells]=some (.tup [.agg [num 0,num 0,.sl false 10 []],boolX false]))(h97:Gam.pureD (callF tab ext (K+320)) 33 [.agg s.cells,.sl false 1 [[.fn 80 [.dp i.m.cells,.dp nd.cells,.dp [strX gG]]]]]=some (.agg (fC false s i.m nd.name gG))):
  Gam.pureD (callF tab ext (K+321)) 10 [.agg nd.cells,.agg s.cells,.agg ({i with kind:=1}:Inp).cells]=some (.agg (fC false s i.m nd.name gG)):=by
 obtain ⟨kd,tm,⟨se,sp⟩,⟨⟨u,p⟩,w,o,⟨a,f,h,j,l,q⟩⟩,y,Z,b2,⟨c1,c2,c3,c4,c5,c6⟩⟩:=i;obtain ⟨n,t,A⟩:=s;obtain ⟨B,E,F,H,J,L⟩:=k;obtain ⟨⟨M,N,O,P,Q,S⟩,V,W,U,Y⟩:=x;exact puA [(21,.p (.agg (Msg.mk ⟨u,p⟩ w o (.mk a f h j l q)).cells)),(25,.p (.tup [.agg (Val.mk B E F H J L).cells,num e])),(29,.b false),(41,.p (.tup [.agg (Slt.mk ⟨M,N,O,P,Q,S⟩ V W U Y).cells,boolX false])),(55,.p (.tup [.agg [num 0,num 0,.sl false 10 []],boolX false])),(65,.p (.agg (fC false (Stt.mk n t A) (Msg.mk ⟨u,p⟩ w o (.mk a f h j l q)) nd.name gG)))] (pf6 h98 h99 he zi Jj h97) (.agg (fC false (Stt.mk n t A) (Msg.mk ⟨u,p⟩ w o (.mk a f h j l q)) nd.name gG))
theorem QL (s':Stt)(Jj:Gam.pureD (callF tab ext (K+320)) 39 [.agg nd.cells,.agg s.cells,.agg k.cells]=some (.tup [.agg s'.cells,boolX true]))(h97:Gam.pureD (callF tab ext (K+320)) 33 [.agg s.cells,.sl false 1 [[.fn 89 [.dp s'.cells]],[.fn 90 [.dp i.m.cells]]]]=some (.agg (G6 s' i.m 0))):
  Gam.pureD (callF tab ext (K+321)) 10 [.agg nd.cells,.agg s.cells,.agg ({i with kind:=1}:Inp).cells]=some (.agg (G6 s' i.m 0)):=by
 obtain ⟨kd,tm,⟨se,sp⟩,⟨⟨w,p⟩,A,o,⟨f,h,j,l,q,u⟩⟩,y,b1,b2,⟨c1,c2,c3,c4,c5,c6⟩⟩:=i;obtain ⟨n,t,ss⟩:=s;obtain ⟨B,E,a⟩:=s';obtain ⟨F,H,J,L,M,N⟩:=k;obtain ⟨⟨O,P,Q,S,U,V⟩,Y,Z,W,xv⟩:=x;exact puA [(21,.p (.agg (Msg.mk ⟨w,p⟩ A o (.mk f h j l q u)).cells)),(25,.p (.tup [.agg (Val.mk F H J L M N).cells,num e])),(29,.b false),(41,.p (.tup [.agg (Slt.mk ⟨O,P,Q,S,U,V⟩ Y Z W xv).cells,boolX false])),(55,.p (.tup [.agg (Stt.mk B E a).cells,boolX true])),(72,.p (.agg (G6 (Stt.mk B E a) (Msg.mk ⟨w,p⟩ A o (.mk f h j l q u)) 0)))] (pf6 h98 h99 he zi Jj h97) (.agg (G6 (Stt.mk B E a) (Msg.mk ⟨w,p⟩ A o (.mk f h j l q u)) 0))
end
end
theorem Eb (nd:Nod)(s:Stt)(k:Val)(N:Nat)(h:decide (s.n>=1099511627776)=true):Gam.pureD (callF tab ext (N+1)) 39 [.agg nd.cells,.agg s.cells,.agg k.cells]=some (.tup [.agg [num 0,num 0,.sl false 10 []],boolX false]):=by obtain ⟨n,t,u⟩:=s;obtain ⟨a,f,j,l,m,q⟩:=k;exact puA [(13,.b true)] (pf1 h) (.tup [.agg [num 0,num 0,.sl true 10 []],boolX false])
end Ct
theorem pF:∀(d w:Nat) (ss:List Slt),(trimS d w ss).Sublist ss
 |0,_,_=>List.Sublist.refl _
 |d+1,w,ss=>by
  unfold trimS;split;·exact (pF d w _).trans (oG ss)
  exact List.Sublist.refl _
namespace Ct
inductive SL where
 |bad (r:qaX)
 |good (l:List Val)
end Ct
namespace Ct
abbrev zkR (name:qaX) (kd k1 k2 k3 w k5:Int) (text:qaX) (a b c d:Int) (we el f ty ex ru ca ne:qaW):List X:=[strX name,num kd,num k1,num k2,num k3,num w,num k5,strX text,num a,num b,num c,num d,.sl false 1 we,.sl false 7 el,.sl false 11 f,.sl false 7 ty,.sl false 5 ex,.sl false 6 ru,.sl false 2 ca,.sl false 1 ne]
section
variable (name:qaX) (k1 k2 k3 w k5:Int) (text:qaX) (a b c d:Int) (we el f ty ex ru ca ne:qaW) (s:Stt) (m:Msg) (v:Val) (j:Nat)
abbrev zkM:List X:=[num 0,num 0,.sl true 10 [],.sl true 11 [],.sl true 11 [],.sl true 6 [],.sl true 10 []]
noncomputable abbrev mcH:St:=⟨[(3,.ptr 0 0 0),(4,.ptr 1 0 0),(6,.ptr 2 0 0),(7,.ptr 3 0 0),(8,.ptr 4 0 0),(13,nat j)],[.var (zkR name 11 k1 k2 k3 w k5 text a b c d we el f ty ex ru ca ne),.var s.cells,.var zkM,.var m.cells,.var v.cells]⟩
noncomputable abbrev mcE:St:=⟨[(3,.ptr 0 0 0),(4,.ptr 1 0 0),(6,.ptr 2 0 0),(7,.ptr 3 0 0),(8,.ptr 4 0 0),(13,nat j),(90,boolX false)],[.var (zkR name 11 k1 k2 k3 w k5 text a b c d we el f ty ex ru ca ne),.var s.cells,.var zkM,.var m.cells,.var v.cells]⟩
variable (g:Bool) (er:Int) (r:qaX) (M:Nat)
variable (i:Inp)
end
end Ct
theorem lH (i:Inp):∃v,(fO i).m.body=aS 4 v:=⟨i.m.body,rfl⟩
theorem qO (s:Stt):(shortS s).slots.length<=6:=by show ((s.slots.take 6).map jC).length<=6;rw [qaB,qag];omega
open Go.Em Go.RowKit Go.Lib
theorem ny {P:Program}(w:World)(dT sT ty elem:TypeId)(k:Nat)(b o dLen dCap:Nat)(a:Addr)(sLen sCap:Nat)(cs:List Value)
  (hu:P.underlying dT=some (.slice elem)) (hs:(P.info? elem).map (·.size)=some k) (hn:cs.length=Nat.min sLen dLen*k)
  (hsrc:∀j v,cs[j]?=some v->w.cell? (a.add j)=some v) (hc:∀j,j<cs.length->(w.cell? ⟨b,o+j,none⟩).isSome=true) (hf:∀j,j<cs.length->w.frozen? ⟨b,o+j,none⟩=false) (h1:∀v∈cs,v.oneCell'=true):
  (Builtin.copy_ #[dT,sT] ty #[.slice (some ⟨b,o,none⟩) dLen dCap,.slice (some a) sLen sCap]).run P w=.ok (goInt (Nat.min sLen dLen)) (w.setCells b o cs):=by
 have m:=run_loadCells_list (P:=P) w a cs hsrc;have h:=run_storeCells_cells (P:=P) b o cs 0 w (by simpa using hc) (by simpa using hf) h1;cases f:P.info? elem with
 |none=>simp [f] at hs
 |some i=>
  have l:i.size=k:=by simpa [f] using hs
  simp [Builtin.copy_,run_underlying hu,Builtin.lenOf,Builtin.firstCells,sizeOf,typeInfo,f,l,<-hn,m,h]
theorem uJ {P:Program}(w:World)(tS tR e:TypeId)(ht:P.underlying tS=some (.slice e))(size:Nat)(hz:∀w,(Go.sizeOf e).run P w=.ok size w)
  (a b:Addr) (la ca lb cb:Nat) (hne:a.block≠b.block) (tA tB:TypeId) (kA kB:Nat)
  (hsa:w.shape? a.block=some (tA,kA)) (hsb:w.shape? b.block=some (tB,kB)) (hkB:kB≠0) (hkA:kA≠0)
  (hfb:w.frozen? b=false) (hfe:w.frozen? {block:=b.block,off:=kB}=false):
  (Extern.SlicesOverlaps.overlaps #[tS,tS] #[tR] #[.slice (some a) la ca,.slice (some b) lb cb]).run P w=.ok (.bool false) w:=by
 have hnb:(a.block !=b.block)=true:=by simpa using hne
 have hnb':(a.block==b.block)=false:=by simpa using hne
 change Sem.run P (α:=Value) (do
  let some t:=(#[tS,tS]:Array TypeId)[0]?|stuck "slices.overlaps: no parameter types"
  let .slice elem <-underlying t|stuck "slices.overlaps: slice type expected"
  let size <-sizeOf elem
  match (some a:Option Addr),(some b:Option Addr) with
  |some a,some b=>
   if la=0\/lb=0\/size=0 then pure (Value.bool false)
   else if a.block !=b.block&&(<-frozen a)&&(<-frozen b) then unsupported .addressObserved
   else do
    if a.block !=b.block then do
     noView a;noView b
     if <-mayBeOne a b then return Value.bool ((<-choose (.extern "sameAddr.stringBytes" 2))==1)
    pure (Value.bool (a.block==b.block&&a.off<b.off+lb*size&&b.off<a.off+la*size))
  |_,_=>pure (Value.bool false)) w=_
 by_cases h0:la=0\/lb=0\/size=0;·simp [run_underlying ht,hz,h0]
 cases kB with
 |zero=>exact absurd rfl hkB
 |succ kB=>
  obtain ⟨kA,rfl⟩:∃k,kA=k+1:=⟨kA-1,by omega⟩;cases hfa:w.frozen? a with
  |true=>simp [run_underlying ht,hz,h0,hnb,hnb',frozen,noView,viewAt,mayBeOne,stringish,shape,Sem.run,hsa,hsb,hfb,hfe,hfa]
  |false=>
   cases hfx:w.frozen? {block:=a.block,off:=kA+1} with
   |true=>simp [run_underlying ht,hz,h0,hnb,hnb',frozen,noView,viewAt,mayBeOne,stringish,shape,Sem.run,hsa,hsb,hfb,hfe,hfa,hfx]
   |false=>simp [run_underlying ht,hz,h0,hnb,hnb',frozen,noView,viewAt,mayBeOne,stringish,shape,Sem.run,hsa,hsb,hfb,hfe,hfa,hfx]
theorem qX {P:Program}(w:World)(tS tR e:TypeId)(ht:P.underlying tS=some (.slice e))(size:Nat)(hz:∀w,(Go.sizeOf e).run P w=.ok size w)
  (a b:Addr) (la ca lb cb:Nat) (hsame:a.block=b.block) (hd:¬(a.off<b.off+lb*size/\b.off<a.off+la*size)):
  (Extern.SlicesOverlaps.overlaps #[tS,tS] #[tR] #[.slice (some a) la ca,.slice (some b) lb cb]).run P w=.ok (.bool false) w:=by
 have hnb:(a.block !=b.block)=false:=by simpa using hsame
 have hnb':(a.block==b.block)=true:=by simpa using hsame
 have hd':(decide (a.off<b.off+lb*size)&&decide (b.off<a.off+la*size))=false:=by
  cases h:(decide (a.off<b.off+lb*size)&&decide (b.off<a.off+la*size)) with
  |false=>rfl
  |true=>exact absurd (by simpa using h) hd
 change Sem.run P (α:=Value) (do
  let some t:=(#[tS,tS]:Array TypeId)[0]?|stuck "slices.overlaps: no parameter types"
  let .slice elem <-underlying t|stuck "slices.overlaps: slice type expected"
  let size <-sizeOf elem
  match (some a:Option Addr),(some b:Option Addr) with
  |some a,some b=>
   if la=0\/lb=0\/size=0 then pure (Value.bool false)
   else if a.block !=b.block&&(<-frozen a)&&(<-frozen b) then unsupported .addressObserved
   else do
    if a.block !=b.block then do
     noView a;noView b
     if <-mayBeOne a b then return Value.bool ((<-choose (.extern "sameAddr.stringBytes" 2))==1)
    pure (Value.bool (a.block==b.block&&a.off<b.off+lb*size&&b.off<a.off+la*size))
  |_,_=>pure (Value.bool false)) w=_
 by_cases h0:la=0\/lb=0\/size=0;·simp [run_underlying ht,hz,h0]
 simp [run_underlying ht,hz,h0,hnb,hnb',hd',frozen,Sem.run]
theorem qM:Tryz.prog.underlying 35=some (.slice 81):=by kernel_rfl
theorem info78:(Tryz.prog.info? 81).map (·.size)=some 10:=by kernel_rfl
theorem Zq:∀w,(Go.sizeOf 81).run Tryz.prog w=.ok 10 w:=Tryz.sizeOf81
set_option maxHeartbeats 4000000 in
set_option maxRecDepth 100000 in
theorem Rq (b off n c i vb voff vc:Nat)(cs vs:List Value)(w:World)(hi:i<n)(hroom:n+1<=c)(hn3:n<=2000000)(hdis:∀j k,j<10->k<(n+1)*10->vb=b->voff+j≠off+k)
  (hcl:cs.length=n*10) (hvl:vs.length=10)
  (hcs:∀j v,cs[j]?=some v->w.cell? ⟨b,off+j,none⟩=some v) (hsp:∀j,j<(n+1)*10->(w.cell? ⟨b,off+j,none⟩).isSome=true) (hfz:∀j,j<(n+1)*10->w.frozen? ⟨b,off+j,none⟩=false)
  (hvs:∀j v,vs[j]?=some v->w.cell? ⟨vb,voff+j,none⟩=some v) (h1c:∀v∈cs,v.oneCell'=true) (h1v:∀v∈vs,v.oneCell'=true)
  (tA tB:TypeId) (kA kB:Nat) (hsa:w.shape? vb=some (tA,kA)) (hsb:w.shape? b=some (tB,kB)) (hkB:kB≠0) (hkA:kA≠0) (hfb:∀o,w.frozen? ⟨b,o,none⟩=false):
  Calls Tryz.prog 93 #[.slice (some ⟨b,off,none⟩) n c,.int .i64 i,.slice (some ⟨vb,voff,none⟩) 1 vc] w fun e w'=>
   e=.returned (.slice (some ⟨b,off,none⟩) (n+1) c)/\w'=(w.drew.setCells b (off+(i+1)*10) (cs.drop (i*10))).setCells b (off+i*10) vs:=by
 have hz2:¬((i:Int)=(n:Int)):=by omega
 have hov:∀cb,(callFunc 151 #[.slice (some ⟨vb,voff,none⟩) 1 vc,.slice (some ⟨b,off+(i+1)*10,none⟩) (n-i) cb]).run Tryz.prog w=.ok (.value (.bool false)) w:=fun cb=>by
  rw [run_callFunc_extern Tryz.func151 (by kernel_rfl) (by kernel_rfl) (by kernel_rfl) (e:=Extern.SlicesOverlaps.overlaps #[35,35] #[4]) (by kernel_rfl)];by_cases hvb:vb=b
  ·rw [qX w 35 4 81 qM 10 Zq ⟨vb,voff,none⟩ ⟨b,off+(i+1)*10,none⟩ 1 vc (n-i) cb hvb (fun h=>by
    obtain ⟨h1,h2⟩:=h;dsimp only at h1 h2;by_cases hlo:off+(i+1)*10<=voff;·exact hdis 0 (voff-off) (by omega) (by omega) hvb (by omega)
    exact hdis (off+(i+1)*10-voff) ((i+1)*10) (by omega) (by omega) hvb (by omega))]
   rfl
  rw [uJ w 35 4 81 qM 10 Zq ⟨vb,voff,none⟩ ⟨b,off+(i+1)*10,none⟩ 1 vc (n-i) cb hvb tA tB kA kB hsa hsb hkB hkA (hfb _) (hfb _)];rfl
 have hdl:(cs.drop (i*10)).length=(n-i)*10:=by rw [qaK,hcl];omega
 have hw1:IntKind.i64.wrap ((i:Int)+1)=(i:Int)+1:=by rw [IntKind.wrap_i64];omega
 have hb1:(0:Int)<=(i:Int)+1:=by omega
 have hin:i<=n:=by omega
 have htn:((i:Int)+1).toNat=i+1:=by omega
 have hb2:¬(c=i+1):=by omega
 have hb3:(i:Int)<=(n:Int)+1:=by omega
 have hb4:¬(c=i):=by omega
 have hcp1:∀ty dc sc,(Builtin.copy_ #[35,35] ty #[.slice (some ⟨b,off+(i+1)*10,none⟩) (n-i) dc,.slice (some ⟨b,off+i*10,none⟩) (n+1-i) sc]).run Tryz.prog w.drew=.ok (goInt (Nat.min (n+1-i) (n-i))) (w.drew.setCells b (off+(i+1)*10) (cs.drop (i*10))):=fun ty dc sc=>
  ny w.drew _ _ ty 81 10 b (off+(i+1)*10) (n-i) dc ⟨b,off+i*10,none⟩ (n+1-i) sc (cs.drop (i*10)) qM info78 (by rw [hdl];congr 1;simp only [Nat.min_def];split<;>omega)
   (fun j v hj=>by rw [Addr.add_lit,Nat.add_assoc];exact hcs (i*10+j) v (by rwa [qaw] at hj))
   (fun j hj=>by rw [Nat.add_assoc];exact hsp _ (by omega)) (fun j hj=>by rw [Nat.add_assoc];exact hfz _ (by omega)) (fun v hv=>h1c v (List.mem_of_mem_drop hv))
 obtain ⟨W1,hW1⟩:∃W1,W1=w.drew.setCells b (off+(i+1)*10) (cs.drop (i*10)):=⟨_,rfl⟩;have hsp1:∀k,k<(n+1)*10->(W1.cell? ⟨b,off+k,none⟩).isSome=true:=fun k hk=>by rw [hW1];exact isSome_setCells b _ _ _ (fun j hj=>by rw [Nat.add_assoc];exact hsp _ (by omega)) _ (hsp k hk)
 have hcp2:∀(W:World),(∀x,W.cell? x=W1.cell? x)->(∀x,W.frozen? x=W1.frozen? x)->∀ty dc,(Builtin.copy_ #[35,35] ty #[.slice (some ⟨b,off+i*10,none⟩) (n+1-i) dc,.slice (some ⟨vb,voff,none⟩) 1 vc]).run Tryz.prog W=.ok (goInt (Nat.min 1 (n+1-i))) (W.setCells b (off+i*10) vs):=fun W hWc hWf ty dc=>
  ny W _ _ ty 81 10 b (off+i*10) (n+1-i) dc ⟨vb,voff,none⟩ 1 vc vs qM info78 (by rw [hvl];simp only [Nat.min_def];split<;>omega)
   (fun j v hj=>by
    have hj':j<10:=by rw [<-hvl];exact (qak.1 hj).1
    rw [Addr.add_lit,hWc,hW1,World.cell?_setCells_out b _ _ _ _ (fun h _=>by
     dsimp only at h ⊢;have h5:=hdis j (voff+j-off) hj';by_cases h6:off<=voff+j/\voff+j-off<(n+1)*10;·exact absurd (by omega) (h5 h6.2 h)
     omega)]
    exact hvs j v hj)
   (fun j hj=>by rw [hWc,Nat.add_assoc];exact hsp1 _ (by omega)) (fun j hj=>by rw [hWf,hW1,World.frozen?_setCells,Nat.add_assoc];exact hfz _ (by omega)) h1v
 rw [<-hW1] at hcp1;have mixed:Tryz.prog.follows .mixedOrders=true:=by kernel_rfl
 go_enter Tryz.func93,Tryz.ntmps93
 go_wp2_with (simp only [hov])
 go_region_law_o (refine step_copy_runI rfl _ _ 35 35 rfl _ _ (by simp [Act.eval,Act.put]) (by simp [Act.eval,Act.put]) (hcp1 _ _ _) ?_)
 go_wp2_with (at_builtin;refine wpList_copy_runI _ rfl _ _ 35 35 rfl _ _ rfl rfl (hcp2 _ (fun _=>rfl) (fun _=>rfl) _ _) ?_)
 go_ret
 first|exact ⟨rfl,rfl⟩|exact ⟨rfl,by rw [hW1]⟩
set_option maxHeartbeats 4000000 in
set_option maxRecDepth 100000 in
theorem Rt (ob:Option Addr)(n c vb voff vc:Nat)(w w1:World)(v:Value)(hnc:n<=c)(hn3:n<=2000000)(hnil:ob=none->n=0/\c=0)
  (hrun:∀ty,(Builtin.append_ #[35,35] ty #[.slice ob n c,.slice (some ⟨vb,voff,none⟩) 1 vc]).run Tryz.prog w=.ok v w1):
  Calls Tryz.prog 93 #[.slice ob n c,.int .i64 n,.slice (some ⟨vb,voff,none⟩) 1 vc] w fun e w'=>e=.returned v/\w'=w1:=by
 have mixed:Tryz.prog.follows .mixedOrders=true:=by kernel_rfl
 go_enter Tryz.func93,Tryz.ntmps93
 cases ob with
 |none=>
  obtain ⟨rfl,rfl⟩:=hnil rfl
  go_wp2_with (at_builtin;refine Lib.wpList_append_run _ rfl _ _ _ _ rfl _ _ rfl rfl _ _ (hrun _) ?_)
  go_ret
  exact ⟨rfl,rfl⟩
 |some a=>
  obtain ⟨ab,ao,asp⟩:=a
  go_wp2_with (at_builtin;refine Lib.wpList_append_run _ rfl _ _ _ _ rfl _ _ rfl rfl _ _ (hrun _) ?_)
  all_goals (go_ret;exact ⟨rfl,rfl⟩)
def zhe (r:Array Value)(l:List Value):Prop:=r=l.toArray
theorem zbK:(Tryz.prog.info? 81).map (fun i=>(i.zero.map (·.cells.size),i.size,i.bytes))=some (some 10,10,152):=by kernel_rfl
theorem zmv:Tryz.prog.underlying 3=some (.int .i64):=by kernel_rfl
set_option maxHeartbeats 4000000 in
set_option maxRecDepth 100000 in
theorem Xq (b off n c i vb voff vc:Nat)(cs vs:List Value)(w:World)(hi:i<n)(hnc:n<=c)(hroom:c<n+1)(hc63:c<=4000000)
  (hcl:cs.length=n*10) (hvl:vs.length=10)
  (hcs:∀j v,cs[j]?=some v->w.cell? ⟨b,off+j,none⟩=some v)
  (hvs:∀j v,vs[j]?=some v->w.cell? ⟨vb,voff+j,none⟩=some v) (h1c:∀v∈cs,v.oneCell'=true) (h1v:∀v∈vs,v.oneCell'=true):
  Calls Tryz.prog 93 #[.slice (some ⟨b,off,none⟩) n c,.int .i64 i,.slice (some ⟨vb,voff,none⟩) 1 vc] w fun e w'=>
   ∃(G:Nat) (tl:List Value),n+1<=G/\e=.returned (.slice (some ⟨w.heap.size,0,none⟩) (n+1) G)/\tl.length=(G-i)*10/\
   w'=(((w.alloc (.cells ((cs.take (i*10))++tl).toArray 81)).drew.setCells w.heap.size (i*10) vs).drew).setCells w.heap.size ((i+1)*10) (cs.drop (i*10)):=by
 obtain ⟨i0,hi0,hz0,hzs,hzb⟩:∃i0,Tryz.prog.info? 81=some i0/\i0.zero.map (·.cells.size)=some 10/\i0.size=10/\i0.bytes=152:=by obtain ⟨i0,h1,h2⟩:=qac.1 zbK;simp only [qaM] at h2;exact ⟨i0,h1,h2.1,h2.2.1,h2.2.2⟩
 obtain ⟨zv,hz0,hzc⟩:=qac.1 hz0;have hz2:¬((i:Int)=(n:Int)):=by omega
 have hz3:(c:Int)<(n:Int)+1:=by omega
 have hbw:b<w.heap.size:=block_lt_of_cell (hcs 0 _ (qad (by omega)));have hvw:vb<w.heap.size:=block_lt_of_cell (hvs 0 _ (qad (by omega)));have hkk:(n:Int)+1-(i:Int)=((n+1-i:Nat):Int):=by omega
 have hik:i+(n+1-i)=n+1:=by omega
 have hold:(Builtin.firstCells i0.size i (.slice (some ⟨b,off,none⟩) i c)).run Tryz.prog w.drew=.ok (cs.take (i*10)).toArray w.drew:=by
  rw [hzs];exact run_firstCells_some w.drew 10 i ⟨b,off,none⟩ i c (cs.take (i*10)) (by rw [qag];omega) (fun j v hj=>by
   rw [Addr.add_lit];rw [qax] at hj;split at hj;·exact hcs j v hj
   cases hj)
 have hrz:∀ty,(Builtin.append_ #[35,3] ty #[.slice (some ⟨b,off,none⟩) i c,.int .i64 ((n:Int)+1-(i:Int))]).run Tryz.prog w=
   .ok (.slice (some ⟨w.heap.size,0,none⟩) (n+1) (grownCap w (n+1) c 81)) (w.drew.alloc (.cells ((cs.take (i*10)).toArray++Builtin.zeroCells zv.cells (n+1-i)++Builtin.zeroCells zv.cells (grownCap w (n+1) c 81-(n+1))) 81)):=fun ty=>by
  have h:=Lib.run_append_grow_zeros w 35 3 ty 81 i0 zv .i64 .i64 qM zmv hi0 hz0 (some ⟨b,off,none⟩) i c (cs.take (i*10)) hold (n+1-i) (by omega) (by omega) (by omega) (by omega) (by rw [hzb];omega) (by rw [hzb,hik];exact growslice_fits hroom (by omega));rw [hik] at h;rw [hkk];exact h
 have hGn:n+1<=grownCap w (n+1) c 81:=grownCap_ge w _ _ _;have hG63:grownCap w (n+1) c 81<=9223372036854775807:=by have:=grownCap_le_maxLen w (n+1) c 81 (by unfold maxLen;omega);unfold maxLen at this;omega
 generalize grownCap w (n+1) c 81=G at hrz hGn hG63;have hzl:∀k,(Builtin.zeroCells zv.cells k).size=k*10:=fun k=>by simp [Builtin.zeroCells,hzc]
 obtain ⟨tl,htl⟩:∃tl:List Value,(cs.take (i*10)).toArray++Builtin.zeroCells zv.cells (n+1-i)++Builtin.zeroCells zv.cells (G-(n+1))=((cs.take (i*10))++tl).toArray/\tl.length=(G-i)*10:=by
  refine ⟨(Builtin.zeroCells zv.cells (n+1-i)).toList++(Builtin.zeroCells zv.cells (G-(n+1))).toList,?_,?_⟩;·apply Array.toList_inj.1;simp
  rw [qau,Array.length_toList,Array.length_toList,hzl,hzl];omega
 obtain ⟨htl,zkX⟩:=htl;rw [htl] at hrz;obtain ⟨ROW,hROW⟩:∃ROW:Array Value,ROW=((cs.take (i*10))++tl).toArray:=⟨_,rfl⟩;have hRl:(n+1)*10<=ROW.size:=by rw [hROW];simp only [List.size_toArray,qau,qag,zkX];omega
 rw [<-hROW] at hrz;obtain ⟨W1,hW1⟩:∃W1,W1=w.drew.alloc (.cells ROW 81):=⟨_,rfl⟩;rw [<-hW1] at hrz;have hN:∀j,j<(n+1)*10->(W1.cell? ⟨w.heap.size,j,none⟩).isSome=true:=fun j hj=>by rw [hW1,World.cell?_alloc_at (w:=w.drew) ROW _ w.heap.size j rfl,qaC (by omega)];rfl
 have hNf:∀j,W1.frozen? ⟨w.heap.size,j,none⟩=false:=fun j=>by rw [hW1];exact World.frozen?_alloc_at (w:=w.drew) ROW _ w.heap.size j rfl
 have hOb:∀j v,w.cell? ⟨b,j,none⟩=some v->W1.cell? ⟨b,j,none⟩=some v:=fun j v h=>by rw [hW1,World.cell?_alloc_past (w:=w.drew) _ b j hbw];exact h
 have hOv:∀j v,w.cell? ⟨vb,j,none⟩=some v->W1.cell? ⟨vb,j,none⟩=some v:=fun j v h=>by rw [hW1,World.cell?_alloc_past (w:=w.drew) _ vb j hvw];exact h
 have hcpA:∀(W:World),(∀x,W.cell? x=W1.cell? x)->(∀x,W.frozen? x=W1.frozen? x)->∀ty dc,(Builtin.copy_ #[35,35] ty #[.slice (some ⟨w.heap.size,i*10,none⟩) (n+1-i) dc,.slice (some ⟨vb,voff,none⟩) 1 vc]).run Tryz.prog W=.ok (goInt (Nat.min 1 (n+1-i))) (W.setCells w.heap.size (i*10) vs):=fun W hWc hWf ty dc=>
  ny W _ _ ty 81 10 w.heap.size (i*10) (n+1-i) dc ⟨vb,voff,none⟩ 1 vc vs qM info78 (by rw [hvl];simp only [Nat.min_def];split<;>omega)
   (fun j v hj=>by rw [Addr.add_lit,hWc];exact hOv _ v (hvs j v hj))
   (fun j hj=>by rw [hWc];exact hN _ (by omega)) (fun j hj=>by rw [hWf];exact hNf _) h1v
 have hGi:¬(G=i):=by omega
 have hGim:¬(G=i+1):=by omega
 have hci:¬(c=i):=by omega
 have hbN:b≠w.heap.size:=by omega
 have hdl:(cs.drop (i*10)).length=(n-i)*10:=by rw [qaK,hcl];omega
 have hcpB:∀(W:World),(∀x,W.cell? x=(W1.setCells w.heap.size (i*10) vs).cell? x)->(∀x,W.frozen? x=(W1.setCells w.heap.size (i*10) vs).frozen? x)->∀ty dc sc,(Builtin.copy_ #[35,35] ty #[.slice (some ⟨w.heap.size,(i+1)*10,none⟩) (n-i) dc,.slice (some ⟨b,off+i*10,none⟩) (n-i) sc]).run Tryz.prog W=.ok (goInt (Nat.min (n-i) (n-i))) (W.setCells w.heap.size ((i+1)*10) (cs.drop (i*10))):=fun W hWc hWf ty dc sc=>
  ny W _ _ ty 81 10 w.heap.size ((i+1)*10) (n-i) dc ⟨b,off+i*10,none⟩ (n-i) sc (cs.drop (i*10)) qM info78 (by rw [hdl];simp)
   (fun j v hj=>by rw [Addr.add_lit,hWc,World.cell?_setCells_out _ _ _ _ _ (fun h _=>absurd h hbN),Nat.add_assoc];exact hOb _ v (hcs (i*10+j) v (by rwa [qaw] at hj)))
   (fun j hj=>by rw [hWc];exact isSome_setCells _ _ _ _ (fun t ht=>hN _ (by omega)) _ (hN _ (by omega)))
   (fun j hj=>by rw [hWf,World.frozen?_setCells];exact hNf _) (fun v hv=>h1c v (List.mem_of_mem_drop hv))
 subst hW1;have hE1:∀x,((w.alloc (.cells ROW 81)).drew).cell? x=(w.drew.alloc (.cells ROW 81)).cell? x:=fun x=>rfl;have hE2:∀x,((w.alloc (.cells ROW 81)).drew).frozen? x=(w.drew.alloc (.cells ROW 81)).frozen? x:=fun x=>rfl;have hF1:∀x,(((w.alloc (.cells ROW 81)).drew.setCells w.heap.size (i*10) vs).drew).cell? x=((w.drew.alloc (.cells ROW 81)).setCells w.heap.size (i*10) vs).cell? x:=fun x=>rfl;have hF2:∀x,(((w.alloc (.cells ROW 81)).drew.setCells w.heap.size (i*10) vs).drew).frozen? x=((w.drew.alloc (.cells ROW 81)).setCells w.heap.size (i*10) vs).frozen? x:=fun x=>rfl;have hw1:IntKind.i64.wrap ((i:Int)+1)=(i:Int)+1:=by rw [IntKind.wrap_i64];omega
 have hb1:(0:Int)<=(i:Int)+1:=by omega
 have hin:i<=n:=by omega
 have htn:((i:Int)+1).toNat=i+1:=by omega
 have hb3:(i:Int)<=(n:Int):=by omega
 have mixed:Tryz.prog.follows .mixedOrders=true:=by kernel_rfl
 have hkeep:zhe ROW ((cs.take (i*10))++tl):=hROW;clear hkk hik hold hRl htl hROW
 go_enter Tryz.func93,Tryz.ntmps93
 go_wp2_with (first
  |(at_builtin;refine Lib.wpList_append_run _ rfl _ _ _ _ rfl _ _ rfl rfl _ _ (hrz _) ?_)
  |(at_builtin;refine wpList_copy_runI _ rfl _ _ 35 35 rfl _ _ rfl rfl (hcpA _ hE1 hE2 _ _) ?_)
  |(at_builtin;refine wpList_copy_runI _ rfl _ _ 35 35 rfl _ _ rfl rfl (hcpB _ (fun _=>rfl) (fun _=>rfl) _ _ _) ?_))
 go_region_law_o (refine step_copy_runI rfl _ _ 35 35 rfl (.slice (some ⟨w.heap.size,(i+1)*10,none⟩) (n-i) (G-(i+1))) (.slice (some ⟨b,off+i*10,none⟩) (n-i) (c-i)) (by simp [Act.eval,Act.put]) (by simp [Act.eval,Act.put]) (hcpB _ hF1 hF2 3 (G-(i+1)) (c-i)) ?_)
 go_wp2
 go_ret
 exact ⟨G,tl,hGn,rfl,zkX,by unfold zhe at hkeep;rw [<-hkeep]⟩
end Go.Proofs.YtcbeoccmflnejaaGreatDoor
