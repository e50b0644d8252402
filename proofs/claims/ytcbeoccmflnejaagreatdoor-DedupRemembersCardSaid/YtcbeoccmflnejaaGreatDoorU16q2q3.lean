/-.-/
import Derived.Test.YtcbeoccmflnejaaGreatDoorU16
set_option linter.all false
namespace Go.Proofs.YtcbeoccmflnejaaGreatDoor
open Go.Em
set_option maxRecDepth 100000
variable {τ:St}
def T3 (x y z:Int):Prop:=(x=0->z=y)/\(y=0->z=x)/\(x=1->y=1->z=1)/\(x=-1->y=-1->z=-1)/\(x=-1\/x=0\/x=1)
theorem Y1 {x1 y1 z1 x2 y2 z2:Int}(h1:T3 x1 y1 z1)(h2:T3 x2 y2 z2):T3 (if x1=0 then x2 else x1) (if y1=0 then y2 else y1) (if z1=0 then z2 else z1):=by
 obtain ⟨n,q,u,w,m⟩:=h1;by_cases f:x1=0
 ·have j:=n f;rw [j,if_pos f];by_cases a:y1=0;·rw [if_pos a,if_pos a];exact h2
  rw [if_neg a,if_neg a];exact ⟨fun _=>rfl,fun h=>absurd h a,fun _ h=>h,fun _ h=>h,h2.2.2.2.2⟩
 rw [if_neg f];by_cases a:y1=0;·have j:=q a;rw [j,if_neg f];exact ⟨fun h=>absurd h f,fun _=>rfl,fun h _=>h,fun h _=>h,m⟩
 rw [if_neg a];refine ⟨fun h=>absurd h f,fun h=>absurd h a,fun h l=>?_,fun h l=>?_,m⟩;·have:=u h l;rw [this,if_neg (by decide)]
 have:=w h l;rw [this,if_neg (by decide)]
theorem Mc (a b c:Int):T3 (dZ a b) (dZ b c) (dZ a c):=by
 have h:∀a b:Int,(dZ a b=-1/\a<b)\/(dZ a b=0/\a=b)\/(dZ a b=1/\b<a):=fun a b=>by
  unfold dZ;split;·exact .inl ⟨rfl,by assumption⟩
  split;·exact .inr (.inr ⟨rfl,by assumption⟩)
  exact .inr (.inl ⟨rfl,by omega⟩)
 have f:=h a b;have j:=h b c;have l:=h a c;unfold T3;omega
theorem uI (y:Int):T3 0 y y:=⟨fun _=>rfl,fun h=>h,fun h=>(by cases h),fun h=>(by cases h),.inr (.inl rfl)⟩
theorem zkD (y:Int):T3 (-1) y (-1):=⟨fun h=>(by cases h),fun _=>rfl,fun h=>(by cases h),fun _ _=>rfl,.inl rfl⟩
theorem zkC (z:Int):T3 1 (-1) z:=⟨fun h=>(by cases h),fun h=>(by cases h),fun _ h=>(by cases h),fun h=>(by cases h),.inr (.inr rfl)⟩
theorem zkB (x:Int)(h:x=-1\/x=0\/x=1):T3 x 1 1:=⟨fun _=>rfl,fun h=>(by cases h),fun _ _=>rfl,fun _ h=>(by cases h),h⟩
theorem nN:∀a b c:List UInt8,T3 (Lib.compareBytes a b) (Lib.compareBytes b c) (Lib.compareBytes a c)
 |[],[],[]=>uI 0
 |[],[],_::_=>uI (-1)
 |[],_::_,[]=>⟨fun h=>(by cases h),fun h=>(by cases h),fun h=>(by cases h),fun _ h=>(by cases h),.inl rfl⟩
 |[],_::_,_::_=>zkD _
 |_::_,[],[]=>⟨fun h=>(by cases h),fun _=>rfl,fun _ h=>(by cases h),fun h=>(by cases h),.inr (.inr rfl)⟩
 |_::_,[],_::_=>zkC _
 |x::a,y::b,[]=>by
  have h:=nN a b [];refine zkB _ ?_;simp only [Lib.compareBytes];split;·exact .inl rfl
  split;·exact .inr (.inr rfl)
  exact (nN a b b).2.2.2.2
 |x::a,y::b,z::c=>by
  have h:=nN a b c;have e:∀(x y:UInt8) (a b:List UInt8),Lib.compareBytes (x::a) (y::b)=if dZ x.toNat y.toNat=0 then Lib.compareBytes a b else dZ x.toNat y.toNat:=fun x y a b=>by
   simp only [Lib.compareBytes,UInt8.lt_iff_toNat_lt];by_cases h:x.toNat<y.toNat
   ·have e:dZ x.toNat y.toNat=-1:=by unfold dZ;rw [if_pos (by omega)]
    simp [h,e]
   by_cases h':y.toNat<x.toNat
   ·have e:dZ x.toNat y.toNat=1:=by unfold dZ;rw [if_neg (by omega),if_pos (by omega)]
    simp [h,h',e]
   have e:dZ x.toNat y.toNat=0:=by unfold dZ;rw [if_neg (by omega),if_neg (by omega)]
   simp [h,h',e]
  rw [e,e,e];exact Y1 (Mc _ _ _) h
theorem jS {x1 y1 z1:Int}{x y z:List Int}(h1:T3 x1 y1 z1)(h2:T3 (orL x) (orL y) (orL z)):T3 (orL (x1::x)) (orL (y1::y)) (orL (z1::z)):=Y1 h1 h2
theorem zl3:T3 (orL []) (orL []) (orL []):=uI 0
mutual
theorem uH:∀a b c:Val,T3 (cu a b) (cu b c) (cu a c)
 |.mk k i s t l f,.mk k' i' s' t' l' f',.mk k2 i2 s2 t2 l2 f2=>by unfold cu;exact jS (Mc _ _ _) (jS (Mc _ _ _) (jS (Mc _ _ _) (jS (nN _ _ _) (jS (JR l l' l2) (jS (JU f f' f2) (uI 0))))))
theorem JR:∀a b c:List Val,T3 (kH a b) (kH b c) (kH a c)
 |[],[],[]=>uI 0
 |[],[],_::_=>uI (-1)
 |[],_::_,[]=>by simp only [kH];exact ⟨fun h=>(by cases h),fun h=>(by cases h),fun h=>(by cases h),fun _ h=>(by cases h),.inl rfl⟩
 |[],_::_,_::_=>by simp only [kH];exact zkD _
 |_::_,[],[]=>by simp only [kH];exact ⟨fun h=>(by cases h),fun _=>rfl,fun _ h=>(by cases h),fun h=>(by cases h),.inr (.inr rfl)⟩
 |_::_,[],_::_=>by simp only [kH];exact zkC _
 |x::a,y::b,[]=>by
  have h1:=(uH x y y).2.2.2.2;have h2:=(JR a b b).2.2.2.2;simp only [kH];refine zkB _ ?_;split;·exact h2
  exact h1
 |x::a,y::b,z::c=>by have h1:=uH x y z;have h2:=JR a b c;simp only [kH];exact Y1 h1 h2
theorem JU:∀a b c:List (qaX×Val),T3 (kJ a b) (kJ b c) (kJ a c)
 |[],[],[]=>uI 0
 |[],[],_::_=>uI (-1)
 |[],_::_,[]=>by simp only [kJ];exact ⟨fun h=>(by cases h),fun h=>(by cases h),fun h=>(by cases h),fun _ h=>(by cases h),.inl rfl⟩
 |[],_::_,_::_=>by simp only [kJ];exact zkD _
 |_::_,[],[]=>by simp only [kJ];exact ⟨fun h=>(by cases h),fun _=>rfl,fun _ h=>(by cases h),fun h=>(by cases h),.inr (.inr rfl)⟩
 |_::_,[],_::_=>by simp only [kJ];exact zkC _
 |(n,x)::a,(m,y)::b,[]=>by
  have h1:=(jS (nN n.data.toList m.data.toList m.data.toList) (jS (uH x y y) zl3)).2.2.2.2;have h2:=(JU a b b).2.2.2.2;simp only [kJ];refine zkB _ ?_;split;·exact h2
  exact h1
 |(n,x)::a,(m,y)::b,(o,z)::c=>by have h1:=jS (nN n.data.toList m.data.toList o.data.toList) (jS (uH x y z) zl3);have h2:=JU a b c;simp only [kJ];exact Y1 h1 h2
end
theorem DY {a b c:Val}(h:cu a b=1)(h':cu b c=1):cu a c=1:=(uH a b c).2.2.1 h h'
theorem DX (a b:Val):cu a b=-1\/cu a b=0\/cu a b=1:=(uH a b b).2.2.2.2
def okI:List Msg->List Msg->Prop
 |_,[]=>True
 |acc,m::r=>Pck acc.length (Gz m) (kE acc m)=true/\okI (acc++[m]) r
theorem QW:∀(l acc:List Msg),okI acc l↔∀j (h:j<l.length),Pck (acc.length+j) (Gz l[j]) (kE (acc++l.take j) l[j])=true
 |[],acc=>⟨fun _ j h=>absurd h (by simp),fun _=>trivial⟩
 |m::r,acc=>by
  have ih:=QW r (acc++[m]);unfold okI;rw [ih];constructor;·intro ⟨h0,h⟩ j hj;cases j<;>grind
  intro h;refine ⟨by have:=h 0 (by simp)<;>simp_all,fun j hj=>?_⟩;have:=h (j+1) (by grind);simpa [Nat.add_assoc,Nat.add_comm 1 j] using this
theorem Af:∀(a b acc:List Msg),okI acc (a++b)↔okI acc a/\okI (acc++a) b
 |[],b,acc=>by simp [okI]
 |m::r,b,acc=>by have:=Af r b (acc++[m])<;>simp_all[okI,and_assoc]
theorem Fz:∀(ss:List Slt) (acc:List Msg),okI acc (dB ss)↔∀j (h:j<ss.length),okI (acc++dB (ss.take j)) ss[j].items
 |[],acc=>⟨fun _ j h=>absurd h (by simp),fun _=>trivial⟩
 |x::r,acc=>by
  have ih:=Fz r (acc++x.items);have e:dB (x::r)=x.items++dB r:=by simp [dB]
  rw [e,Af,ih];constructor;·intro ⟨h0,h⟩ j hj;cases j<;>grind[dB]
  intro h;refine ⟨by have:=h 0 (by simp)<;>simp_all[dB],fun j hj=>?_⟩;have:=h (j+1) (by simpa using hj)<;>grind[dB]
theorem zbk {k:Nat}{c:Int}{b:Bool}(hk:k<256):Pck k c b=true↔c=0/\b=false:=by grind[Pck]
theorem IC {l:List Msg}{m:Msg}:kE l m=false↔∀o,o∈l->D6 o.st m.st≠0:=by grind[kE]
theorem QV:∀(l acc:List Msg),acc.length+l.length<=256->(okI acc l↔UC l/\∀m,m∈l->∀o,o∈acc->D6 o.st m.st≠0)
 |[],acc,_=>by simp [okI,UC]
 |m::r,acc,h=>by
  have hl:acc.length+r.length+1<=256:=by simpa [Nat.add_assoc] using h
  have ih:=QV r (acc++[m]) (by grind);unfold okI UC;rw [ih,zbk (by omega),IC,List.pairwise_cons];unfold UC
  grind
theorem KC:∀(ss:List Slt),(∀j (h:j+1<ss.length),cu ss[j+1].key ss[j].key=1)->JV ss
 |[],_=>.nil
 |[x],_=>by simp [JV]
 |x::y::r,h=>by
  have ih:=KC (y::r) fun j hj=>h (j+1) (by grind);have h0:cu y.key x.key=1:=h 0 (by simp);unfold JV at ih ⊢;rw [List.pairwise_cons];refine ⟨fun z hz=>?_,ih⟩;rcases qal.1 hz with rfl|hz
  ·grind
  grind[DY,List.pairwise_cons]
theorem QE {acc:List Msg}{v:Nat}{x:Slt}{cc:Int}(hv:x.vals=[]):RdP acc acc.length v x cc↔((zo x.key=0\/dw x.key=true)/\Yw x.n x.t=0)/\(cc≠0/\cc≠-1)/\okI acc x.items:=by grind[RdP,ZR,SlP,QW]
theorem zaB {s:Stt}(hv:∀x,x∈s.slots->x.vals=[])(hl:(dB s.slots).length<=256):StP s↔StG s:=by
 have l:=Fz s.slots [];have m:=QV (dB s.slots) [] (by grind);constructor
 ·intro ⟨h0,h⟩;have f:=fun j a=>(QE (hv _ (qae a))).1 (h j a);refine ⟨h0,fun x n=>?_,KC _ fun j a=>?_,?_⟩;·obtain ⟨j,a,rfl⟩:=List.mem_iff_getElem.1 n<;>simp_all
  ·have:=(f (j+1) a).2.1;unfold YF at this;rw [if_neg (by omega),qad a,show j+1-1=j from rfl,qad (show j<s.slots.length by omega)] at this;dsimp only at this;rcases DX s.slots[j+1].key s.slots[j].key with h|h|h
   ·grind
   ·grind
   grind
  grind
 intro ⟨h0,h1,h2,h3⟩;have q:=l.1 (m.2 ⟨h3,by simp⟩);refine ⟨h0,fun j a=>(QE (hv _ (qae a))).2 ⟨h1 _ (qae a),?_,by grind⟩⟩;unfold YF;by_cases hz:j=0
 ·grind
 rw [if_neg hz,qad a,qad (show j-1<s.slots.length by omega)];have:=List.pairwise_iff_getElem.1 h2 (j-1) j (by omega) a (by omega)<;>grind
end Go.Proofs.YtcbeoccmflnejaaGreatDoor
