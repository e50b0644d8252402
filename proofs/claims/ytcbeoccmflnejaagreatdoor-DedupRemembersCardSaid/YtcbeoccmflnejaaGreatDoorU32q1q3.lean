/-.-/
import Derived.Test.YtcbeoccmflnejaaGreatDoorU32
set_option linter.all false
namespace Go.Proofs.YtcbeoccmflnejaaGreatDoor
open Go Go.Em Go.Ab
set_option maxRecDepth 100000
variable {u v:Bool}{nm t:qaX}{Γ:Gam}{h:Int}{ps:List Prop}{ss:List Slt}{c e:List X}{fu nIn:Nat}{σ σ':St}
open Go.Em
open Go Go.Em
theorem VT (ans:List (Nat×Ans))(lo:List (Ex×St))(hp:allP ps){m:C}(h:(match runA Γ ans nIn fu m σ lo with|some (.norm,υ,[],qs)=>(canon nIn υ).map fun ω=>(ω,qs)|_=>none)=some (σ',ps)):∃υ,run Γ nIn fu m σ=some (.norm,υ)/\canon nIn υ=some σ':=by
 split at h;next υ qs f=>obtain ⟨ω,a,e⟩:=qac.1 h;cases e;exact ⟨υ,runA_sound f hp,a⟩
 cases h
theorem aH (ans:List (Nat×Ans))(hp:allP ps){m:C}(h:(match runA Γ ans nIn fu m σ [] with|some (.norm,υ,[],qs)=>(canon nIn υ).map fun ω=>(ω,qs)|_=>none)=some (σ',ps)):∃υ,run Γ nIn fu m σ=some (.norm,υ)/\canon nIn υ=some σ':=VT ans [] hp h
theorem F9 {n:Int}:∀{l:List Slt} {i:Nat} (h:i<l.length),l[i].n=n->(∀j (hj:j<i),(l[j]'(by omega)).n≠n)->aQ n l=i
 |x::r,0,_,hn,_=>by unfold aQ;rw [if_pos (by simpa using hn)]
 |x::r,i+1,h,hn,hj=>by have h0:=hj 0 (by omega);simp only [List.getElem_cons_zero] at h0;unfold aQ;rw [if_neg h0,F9 (l:=r) (i:=i) (by simpa using h) (by simpa using hn) (fun j hj'=>by simpa using hj (j+1) (by omega))]
def G7 (x:Slt)(r:List Slt)(k:Nat):Nat:=aQ (minS x (r.take k)).n (x::r)
theorem QT (x:Slt)(r:List Slt):G7 x r 0=0:=by simp [G7,minS,aQ]
theorem Wy (x:Slt)(r:List Slt)(k:Nat):∃h:G7 x r k<(x::r).length,((x::r)[G7 x r k]).n=(minS x (r.take k)).n:=by
 have u:∃y,y∈x::r/\y.n=(minS x (r.take k)).n:=by
  rcases vk (r.take k) x with h|h;·exact ⟨x,qay ..,by rw [h]⟩
  exact ⟨_,qaD _ (List.mem_of_mem_take h),rfl⟩
 have j:∀(l:List Slt) (n:Int),(∃y,y∈l/\y.n=n)->∃h:aQ n l<l.length,l[aQ n l].n=n:=by
  intro l n;induction l with
  |nil=>rintro ⟨y,f,_⟩;cases f
  |cons a l ih=>
   intro f;by_cases h:a.n=n
   ·have e:aQ n (a::l)=0:=by unfold aQ;rw [if_pos h]
    exact ⟨by rw [e];simp,by simp [e,h]⟩
   have e:aQ n (a::l)=aQ n l+1:=by conv=>lhs;unfold aQ;rw [if_neg h]
   obtain ⟨y,f,m⟩:=f;rcases qal.1 f with rfl|f;·exact absurd m h
   obtain ⟨w,q⟩:=ih ⟨y,f,m⟩;exact ⟨by rw [e];simp;omega,by simp only [e,List.getElem_cons_succ];exact q⟩
 exact j _ _ u
theorem QU (x:Slt)(r:List Slt)(k:Nat)(h:k<r.length):G7 x r (k+1)=if r[k].n<(minS x (r.take k)).n then k+1 else G7 x r k:=by
 unfold G7;rw [wW x r k h];split
 ·rename_i f;refine F9 (by simp;omega) (by simp) (fun j m=>?_);obtain ⟨q,l⟩:=wX (r.take k) x;cases j with
  |zero=>simp only [List.getElem_cons_zero];omega
  |succ j=>simp only [List.getElem_cons_succ];have a:r[j]∈r.take k:=List.mem_take_iff_getElem.2 ⟨j,by omega,rfl⟩;have:=l _ a;omega
 rfl
section
variable (l:qaW) (at' j:Nat) (M:Nat)
def odH:St:=⟨[(0,.sl false 10 l),(3,nat at'),(4,nat j)],[]⟩
def odE:St:=⟨[(0,.sl false 10 l),(3,nat at'),(4,nat j),(8,boolX false)],[]⟩
theorem WC (a b:Slt)(b':Bool)(h1:decide (Int.ofNat j<Int.ofNat l.length)=true)(ha:l[j]?=some a.cells)(hb:l[at']?=some b.cells)(h2:decide (a.n<b.n)=b')(hn:IntKind.i64.wrap (Int.ofNat j+1)=Int.ofNat (j+1)):
  ∃υ,run (callF tab ext M) 0 M (loopAt 46 0) (odH l at' j)=some (.norm,υ)/\canon 0 υ=some (odH l (if b' then j else at') (j+1)):=by
 obtain ⟨⟨h,m,q,u,w,y⟩,B,f,A,E⟩:=a;obtain ⟨⟨N,O,P,Q,S,U⟩,H,J,F,L⟩:=b;cases b' with
 |true=>exact aH [(8,.b true),(13,.e (Slt.mk ⟨h,m,q,u,w,y⟩ B f A E).cells),(18,.e (Slt.mk ⟨N,O,P,Q,S,U⟩ H J F L).cells),(21,.b true),(10,.i (Int.ofNat (j+1)))] (pf5 h1 ha hb h2 hn) (by kernel_rfl)
 |false=>exact aH [(8,.b true),(13,.e (Slt.mk ⟨h,m,q,u,w,y⟩ B f A E).cells),(18,.e (Slt.mk ⟨N,O,P,Q,S,U⟩ H J F L).cells),(21,.b false),(10,.i (Int.ofNat (j+1)))] (pf5 h1 ha hb h2 hn) (by kernel_rfl)
theorem zfT (h1:decide (Int.ofNat j<Int.ofNat l.length)=false):run (callF tab ext M) 0 M (loopAt 46 0) (odH l at' j)=some (.exit 0,odE l at' j):=
 ruA [(8,.b false)] (pf1 h1)
end
theorem oz (x:Slt)(r:List Slt)(hl:r.length<100000)(N:Nat)(hN:r.length+20<=N):Gam.pureD (callF tab ext N) 46 [.sl false 10 (ak (x::r))]=some (nat (aQ (minS x r).n (x::r))):=by
 obtain ⟨M,rfl⟩:=pR_ N;have f:=aN (x::r);simp only [qat] at f;have a:run (callF tab ext M) 0 M (.loop (loopAt 46 0)) ⟨[(0,.sl false 10 (ak (x::r))),(3,num 0),(4,num 1)],[]⟩=some (.exit 0,odE (ak (x::r)) (G7 x r r.length) (r.length+1)):=by
  refine loop_for (σ:=fun k=>odH (ak (x::r)) (G7 x r k) (k+1)) (k:=r.length) ?_ (fun k y=>?_) (zfT _ _ _ _ (aG (by omega))) (by simp) (by omega);·show canon 0 _=some (odH (ak (x::r)) (G7 x r 0) 1);rw [QT];generalize ak (x::r)=L;kernel_rfl
  obtain ⟨m,q⟩:=Wy x r k;have u:(ak (x::r))[k+1]?=some (r[k]).cells:=by have:=aW (l:=x::r) (j:=k+1) (by simp;omega);simpa using this
  have w:=aW m;have h:=WC (ak (x::r)) (G7 x r k) (k+1) M r[k] ((x::r)[G7 x r k]) _ (aI (by omega)) u w rfl (ay (by omega));rw [q] at h;have e:(if decide (r[k].n<(minS x (r.take k)).n)=true then k+1 else G7 x r k)=G7 x r (k+1):=by rw [QU x r k y];simp only [qaI]
  rw [e] at h;exact h
 have e:G7 x r r.length=aQ (minS x r).n (x::r):=by simp [G7]
 rw [e] at a;generalize aQ (minS x r).n (x::r)=i at a ⊢;generalize ak (x::r)=L at a ⊢;exact puB [] [(.exit 0,odE L i (r.length+1))] (pf1 a) (nat i)
def ocC (n t:Int)(ss outs Dh letters:qaW):List X:=[num n,num t,.sl false 10 ss,.sl false 11 outs,.sl false 11 [],.sl false 6 Dh,.sl false 10 letters]
end Go.Proofs.YtcbeoccmflnejaaGreatDoor
