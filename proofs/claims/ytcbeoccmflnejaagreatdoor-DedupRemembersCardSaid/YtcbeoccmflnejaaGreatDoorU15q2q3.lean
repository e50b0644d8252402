/-.-/
import Derived.Test.YtcbeoccmflnejaaGreatDoorU15
set_option linter.all false
namespace Go.Proofs.YtcbeoccmflnejaaGreatDoor
open Go.Em
set_option maxRecDepth 100000
variable {b:C}{e:Ex}{nIn:Nat}{H:Nat->St}{fin τ:St}
set_option linter.unusedSimpArgs false
theorem wQ {a b:Int}(h:dZ a b=0):a=b:=by
 unfold dZ at h;split at h;·cases h
 split at h;·cases h
 omega
theorem Cc:∀{l:List Int},orL l=0->∀x,x∈l->x=0
 |[],_,x,hx=>by cases hx
 |y::r,h,x,hx=>by
  unfold orL at h;split at h
  ·rename_i h0;rcases qal.1 hx with rfl|hx;·exact h0
   exact Cc h x hx
  rename_i h0;exact absurd h h0
theorem OL:∀{a b:List UInt8},Lib.compareBytes a b=0->a=b:=by
 intro a b;induction a generalizing b with
 |nil=>cases b<;>simp [Lib.compareBytes]
 |cons x r ih=>
  cases b with
  |nil=>simp [Lib.compareBytes]
  |cons y s=>
   intro h;unfold Lib.compareBytes at h;split at h;·cases h
   split at h;·cases h
   rename_i f j;have e:x=y:=UInt8.le_antisymm (UInt8.not_lt.1 j) (UInt8.not_lt.1 f);rw [e,ih h]
theorem Gu {a b:qaX}(h:uy a b=0):a=b:=by have f:=OL h;have j:a.data=b.data:=Array.toList_inj.1 f;cases a;cases b;cases j;rfl
mutual
theorem qE:∀(a b:Val),cu a b=0->a=b
 |.mk k i s t l f,.mk k' i' s' t' l' f',h=>by unfold cu at h;have h0:=Cc h;have e1:=wQ (h0 _ (qay ..));have e2:=wQ (h0 (dZ i i') (by simp));have e3:=wQ (h0 (dZ s s') (by simp));have e4:=Gu (h0 (uy t t') (by simp));have e5:=Aw l l' (h0 (kH l l') (by simp));have e6:=AA f f' (h0 (kJ f f') (by simp));rw [e1,e2,e3,e4,e5,e6]
theorem Aw:∀(l m:List Val),kH l m=0->l=m
 |[],[],_=>rfl
 |[],_::_,h=>by simp [kH] at h
 |_::_,[],h=>by simp [kH] at h
 |a::l,b::m,h=>by
  unfold kH at h;split at h;next h0=>rw [qE a b h0,Aw l m h]
  rename_i h0;exact absurd h h0
theorem AA:∀(l m:List (qaX×Val)),kJ l m=0->l=m
 |[],[],_=>rfl
 |[],_::_,h=>by simp [kJ] at h
 |_::_,[],h=>by simp [kJ] at h
 |(x,a)::l,(y,b)::m,h=>by
  unfold kJ at h;split at h;next h0=>have h1:=Cc h0;rw [Gu (h1 (uy x y) (by simp)),qE a b (h1 (cu a b) (by simp)),AA l m h]
  rename_i h0;exact absurd h h0
end
end Go.Proofs.YtcbeoccmflnejaaGreatDoor
