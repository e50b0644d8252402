/-.-/
import Derived.Test.YtcbeoccmflnejaaGreatDoorU14q1q3
import Derived.Test.YtcbeoccmflnejaaGreatDoorU32q1q3
set_option linter.all false
namespace Go.Proofs.YtcbeoccmflnejaaGreatDoor
open Go Go.Em Go.Ab
set_option maxRecDepth 100000
variable {u v:Bool}{nm t:qaX}{Γ:Gam}{h:Int}{ps:List Prop}{ss:List Slt}{c e:List X}{fu nIn:Nat}{σ σ':St}
open Go.Em
open Go Go.Em
theorem Zh (n:Nat)(w:Int):decide (Int.ofNat n>if true=true then if 1>w then 1 else w else if 1<w then 1 else w)=decide (wN w<n):=by rw [if_pos rfl];apply decide_eq_decide.2;unfold wN;simp only [qaq];split<;>omega
section
variable (nd:Nod) (w t2:Int) (M:List X) (fst:Bool) (l:qaW) (N:Nat)
def ddS:X:=if fst then .sl false 10 l else .bs 4 0 l.length
def ddR:List Bx:=if fst then [] else [.row 10 l]
def ddH:St:=⟨[(3,.ptr 0 0 0),(6,.ptr 1 0 0),(7,.ptr 2 0 0),(13,.ptr 3 0 0)],[.var nd.cells,.var [num 0,num 0,.sl true 10 [],.sl true 11 [],.sl true 11 [],.sl true 6 [],.sl true 10 []],.var M,.var [num w,num t2,ddS fst l]]++ddR fst l⟩
def ddE:St:=⟨[(3,.ptr 0 0 0),(6,.ptr 1 0 0),(7,.ptr 2 0 0),(13,.ptr 3 0 0),(96,boolX false)],[.var nd.cells,.var [num 0,num 0,.sl true 10 [],.sl true 11 [],.sl true 11 [],.sl true 6 [],.sl true 10 []],.var M,.var [num w,num t2,ddS fst l]]++ddR fst l⟩
theorem ZK (h1:decide (Int.ofNat l.length>if true=true then if 1>nd.number then 1 else nd.number else if 1<nd.number then 1 else nd.number)=false):run (callF tab ext N) 0 N (loopAt 11 0) (ddH nd w t2 M fst l)=some (.exit 0,ddE nd w t2 M fst l):=by
 cases fst with
 |true=>exact ruA [(96,.b false)] (pf1 h1)
 |false=>exact ruA [(96,.b false)] (pf1 h1)
end
section
variable (nd:Nod) (w t2:Int) (m:Msg) (R1 R2:qaW) (n:Nat)
def ddU (z:X)(r:List Bx):St:=⟨[(3,.ptr 0 0 0),(6,.ptr 1 0 0),(7,.ptr 2 0 0),(13,.ptr 3 0 0)],[.var nd.cells,.var [num 0,num 0,.sl true 10 [],.sl true 11 [],.sl true 11 [],.sl true 6 [],.sl true 10 []],.var m.cells,.var [num w,num t2,z]]++r⟩
theorem zjX:canon 0 (ddU nd w t2 m (.sl false 10 R2) [])=some (ddH nd w t2 m.cells true R2):=by obtain ⟨⟨e,p⟩,q,o,⟨a,f,h,j,l,n⟩⟩:=m;kernel_rfl
theorem zjW:canon 0 (ddU nd w t2 m (.sl false 10 R2) [.row 10 R1])=some (ddH nd w t2 m.cells true R2):=by obtain ⟨⟨e,p⟩,q,o,⟨a,f,h,j,l,n⟩⟩:=m;kernel_rfl
theorem zjV:canon 0 (ddU nd w t2 m (.bs 5 0 R2.length) [.dead,.row 10 R2])=some (ddH nd w t2 m.cells false R2):=by obtain ⟨⟨e,p⟩,q,o,⟨a,f,h,j,l,n⟩⟩:=m;kernel_rfl
theorem zjU:canon 0 (ddU nd w t2 m (.bs 6 0 R2.length) [.row 10 R1,.dead,.row 10 R2])=some (ddH nd w t2 m.cells false R2):=by obtain ⟨⟨e,p⟩,q,o,⟨a,f,h,j,l,n⟩⟩:=m;kernel_rfl
end
section
variable (nd:Nod) (w t2:Int) (m:Msg) (N:Nat) (l:qaW) (y:X) {fst:Bool} {i:Nat}
 (h1:decide (Int.ofNat l.length>if true=true then if 1>nd.number then 1 else nd.number else if 1<nd.number then 1 else nd.number)=true) (h127:Gam.pureD (callF tab ext N) 46 [.sl false 10 l]=some y)
abbrev ddP (fst:Bool) (υ:St):Prop:=runA (callF tab ext N) [(96,.b true),(99,.p y)] 0 N (loopAt 11 0) (ddH nd w t2 m.cells fst l) []=some (.norm,υ,[],[decide (Int.ofNat l.length>if true=true then if 1>nd.number then 1 else nd.number else if 1<nd.number then 1 else nd.number)=true,Gam.pureD (callF tab ext N) 46 [.sl false 10 l]=some y])
include h1 h127
theorem zeH (hk:ddP nd w t2 m N l y true (ddU nd w t2 m (.sl false 10 (l.eraseIdx i)) [])):∃υ f,run (callF tab ext N) 0 N (loopAt 11 0) (ddH nd w t2 m.cells true l)=some (.norm,υ)/\canon 0 υ=some (ddH nd w t2 m.cells f (l.eraseIdx i)):=⟨_,_,run_of _ [] (pf2 h1 h127) hk,zjX ..⟩
theorem zeG (hk:ddP nd w t2 m N l y false (ddU nd w t2 m (.sl false 10 (l.eraseIdx i)) [.row 10 l])):∃υ f,run (callF tab ext N) 0 N (loopAt 11 0) (ddH nd w t2 m.cells false l)=some (.norm,υ)/\canon 0 υ=some (ddH nd w t2 m.cells f (l.eraseIdx i)):=⟨_,_,run_of _ [] (pf2 h1 h127) hk,zjW ..⟩
theorem zeF (hk:ddP nd w t2 m N l y true (ddU nd w t2 m (.bs 5 0 (l.eraseIdx i).length) [.dead,.row 10 (l.eraseIdx i)])):∃υ f,run (callF tab ext N) 0 N (loopAt 11 0) (ddH nd w t2 m.cells true l)=some (.norm,υ)/\canon 0 υ=some (ddH nd w t2 m.cells f (l.eraseIdx i)):=⟨_,_,run_of _ [] (pf2 h1 h127) hk,zjV ..⟩
theorem zeE (hk:ddP nd w t2 m N l y false (ddU nd w t2 m (.bs 6 0 (l.eraseIdx i).length) [.row 10 l,.dead,.row 10 (l.eraseIdx i)])):∃υ f,run (callF tab ext N) 0 N (loopAt 11 0) (ddH nd w t2 m.cells false l)=some (.norm,υ)/\canon 0 υ=some (ddH nd w t2 m.cells f (l.eraseIdx i)):=⟨_,_,run_of _ [] (pf2 h1 h127) hk,zjU ..⟩
end
theorem zdw (nd:Nod)(w t2:Int)(m:Msg)(fst:Bool)(l:qaW)(i:Nat)(N:Nat)(hi:i<l.length)(h2:2<=l.length)(hl:l.length<=7)(h1:decide (Int.ofNat l.length>if true=true then if 1>nd.number then 1 else nd.number else if 1<nd.number then 1 else nd.number)=true)
  (h127:Gam.pureD (callF tab ext N) 46 [.sl false 10 l]=some (nat i)):∃υ f,run (callF tab ext N) 0 N (loopAt 11 0) (ddH nd w t2 m.cells fst l)=some (.norm,υ)/\canon 0 υ=some (ddH nd w t2 m.cells f (l.eraseIdx i)):=by
 match l,hl,hi,h1,h127 with
 |[],_,hi,_,_=>cases hi
 |[_],_,_,_,_=>simp at h2
 |[a,b],_,hi,h1,h127=>
  rcases (by simp at hi;omega:i=0\/i=1) with rfl|rfl
  ·cases fst with
   |false=>exact zeG nd w t2 m N [a,b] _ h1 h127 (by unfold ddP;kernel_rfl)
   |true=>exact zeH nd w t2 m N [a,b] _ h1 h127 (by unfold ddP;kernel_rfl)
  all_goals cases fst with
   |false=>exact zeE nd w t2 m N [a,b] _ h1 h127 (by unfold ddP;kernel_rfl)
   |true=>exact zeF nd w t2 m N [a,b] _ h1 h127 (by unfold ddP;kernel_rfl)
 |[a,b,c],_,hi,h1,h127=>
  rcases (by simp at hi;omega:i=0\/i=1\/i=2) with rfl|rfl|rfl
  ·cases fst with
   |false=>exact zeG nd w t2 m N [a,b,c] _ h1 h127 (by unfold ddP;kernel_rfl)
   |true=>exact zeH nd w t2 m N [a,b,c] _ h1 h127 (by unfold ddP;kernel_rfl)
  all_goals cases fst with
   |false=>exact zeE nd w t2 m N [a,b,c] _ h1 h127 (by unfold ddP;kernel_rfl)
   |true=>exact zeF nd w t2 m N [a,b,c] _ h1 h127 (by unfold ddP;kernel_rfl)
 |[a,b,c,d],_,hi,h1,h127=>
  rcases (by simp at hi;omega:i=0\/i=1\/i=2\/i=3) with rfl|rfl|rfl|rfl
  ·cases fst with
   |false=>exact zeG nd w t2 m N [a,b,c,d] _ h1 h127 (by unfold ddP;kernel_rfl)
   |true=>exact zeH nd w t2 m N [a,b,c,d] _ h1 h127 (by unfold ddP;kernel_rfl)
  all_goals cases fst with
   |false=>exact zeE nd w t2 m N [a,b,c,d] _ h1 h127 (by unfold ddP;kernel_rfl)
   |true=>exact zeF nd w t2 m N [a,b,c,d] _ h1 h127 (by unfold ddP;kernel_rfl)
 |[a,b,c,d,f],_,hi,h1,h127=>
  rcases (by simp at hi;omega:i=0\/i=1\/i=2\/i=3\/i=4) with rfl|rfl|rfl|rfl|rfl
  ·cases fst with
   |false=>exact zeG nd w t2 m N [a,b,c,d,f] _ h1 h127 (by unfold ddP;kernel_rfl)
   |true=>exact zeH nd w t2 m N [a,b,c,d,f] _ h1 h127 (by unfold ddP;kernel_rfl)
  all_goals cases fst with
   |false=>exact zeE nd w t2 m N [a,b,c,d,f] _ h1 h127 (by unfold ddP;kernel_rfl)
   |true=>exact zeF nd w t2 m N [a,b,c,d,f] _ h1 h127 (by unfold ddP;kernel_rfl)
 |[a,b,c,d,f,g],_,hi,h1,h127=>
  rcases (by simp at hi;omega:i=0\/i=1\/i=2\/i=3\/i=4\/i=5) with rfl|rfl|rfl|rfl|rfl|rfl
  ·cases fst with
   |false=>exact zeG nd w t2 m N [a,b,c,d,f,g] _ h1 h127 (by unfold ddP;kernel_rfl)
   |true=>exact zeH nd w t2 m N [a,b,c,d,f,g] _ h1 h127 (by unfold ddP;kernel_rfl)
  all_goals cases fst with
   |false=>exact zeE nd w t2 m N [a,b,c,d,f,g] _ h1 h127 (by unfold ddP;kernel_rfl)
   |true=>exact zeF nd w t2 m N [a,b,c,d,f,g] _ h1 h127 (by unfold ddP;kernel_rfl)
 |[a,b,c,d,f,g,h],_,hi,h1,h127=>
  rcases (by simp at hi;omega:i=0\/i=1\/i=2\/i=3\/i=4\/i=5\/i=6) with rfl|rfl|rfl|rfl|rfl|rfl|rfl
  ·cases fst with
   |false=>exact zeG nd w t2 m N [a,b,c,d,f,g,h] _ h1 h127 (by unfold ddP;kernel_rfl)
   |true=>exact zeH nd w t2 m N [a,b,c,d,f,g,h] _ h1 h127 (by unfold ddP;kernel_rfl)
  all_goals cases fst with
   |false=>exact zeE nd w t2 m N [a,b,c,d,f,g,h] _ h1 h127 (by unfold ddP;kernel_rfl)
   |true=>exact zeF nd w t2 m N [a,b,c,d,f,g,h] _ h1 h127 (by unfold ddP;kernel_rfl)
theorem zdx (nd:Nod)(w t2:Int)(m:Msg)(d:Nat)(ss:List Slt)(hl:ss.length<=7)(hd:ss.length<=d)(τ:St)(hτ:canon 0 τ=some (ddH nd w t2 m.cells true (ak ss)))(N:Nat)(hN:100<=N):
  ∃fst,run (callF tab ext N) 0 N (.loop (loopAt 11 0)) τ=some (.exit 0,ddE nd w t2 m.cells fst (ak (trimS d (wN nd.number) ss))):=by
 have u:∀(k:Nat) (d:Nat) (fst:Bool) (ss:List Slt) (τ:St),ss.length<=k->k<=7->ss.length<=d->canon 0 τ=some (ddH nd w t2 m.cells fst (ak ss))->∀F,k<F->∃zjK,iter 0 (run (callF tab ext N) 0 N (loopAt 11 0)) F τ=some (.exit 0,ddE nd w t2 m.cells zjK (ak (trimS d (wN nd.number) ss))):=by
  intro k;induction k with
  |zero=>intro d fst ss τ y _ _ hτ F J;obtain ⟨F,rfl⟩:∃G,F=G+1:=⟨F-1,by omega⟩;have B:=aN ss;have a:=Zh (ak ss).length nd.number;rw [decide_eq_false (by omega:¬wN nd.number<(ak ss).length)] at a;rw [pq (by omega)];exact ⟨fst,iter_end hτ (ZK nd w t2 m.cells fst (ak ss) N a) (by simp)⟩
  |succ k ih=>
   intro d fst ss τ y O hd hτ F J;obtain ⟨F,rfl⟩:∃G,F=G+1:=⟨F-1,by omega⟩;have B:=aN ss;have a:=Zh (ak ss).length nd.number;by_cases h:wN nd.number<ss.length
   ·rw [decide_eq_true (by omega:wN nd.number<(ak ss).length)] at a;cases ss with
    |nil=>simp at h
    |cons x r=>
     simp only [qat] at y hd h B;obtain ⟨d,rfl⟩:∃e,d=e+1:=⟨d-1,by omega⟩;have q:=uh x r;simp only [qat] at q;have M:1<=wN nd.number:=by unfold wN;omega
     have j:=oz x r (by omega) N (by omega);obtain ⟨υ,f,L,A⟩:=zdw nd w t2 m fst (ak (x::r)) _ N (by omega) (by omega) (by omega) a j;have E:(ak (x::r)).eraseIdx (aQ (minS x r).n (x::r))=ak (bf (x::r)):=by simp [bf,ak,List.eraseIdx_eq_take_drop_succ,List.map_take,List.map_drop]
     rw [E] at A;have l:=bT (ss:=x::r) (by simp);simp only [qat] at l;obtain ⟨zjK,hit⟩:=ih d f (bf (x::r)) υ (by omega) (by omega) (by omega) A F (by omega);refine ⟨zjK,?_⟩;have H:trimS (d+1) (wN nd.number) (x::r)=trimS d (wN nd.number) (bf (x::r)):=by
      conv=>lhs;unfold trimS
      rw [if_pos (by simpa using h)]
     rw [H];exact iter_step hτ L hit
   rw [decide_eq_false (by omega:¬wN nd.number<(ak ss).length)] at a;rw [pq h];exact ⟨fst,iter_end hτ (ZK nd w t2 m.cells fst (ak ss) N a) (by simp)⟩
 exact u 7 d true ss τ hl (Nat.le_refl _) hd hτ N (by omega)
theorem GN (a:qaX):(a.toList==a.toList)=true:=by grind
theorem Tn (m:Msg)(hm:m.ok)(t u:Bool)(name r:qaX)(N:Nat)(hN:190200<=N):Gam.pureD (callF tab ext N) 76 [.agg (zgl t (Fte.mk m.st 4 name [] r)),.agg (zgl u (Fte.mk m.st 4 name [] r))]=some (boolX true):=by
 obtain ⟨M,rfl⟩:∃M,N=M+101:=⟨N-101,by omega⟩;have a:=uU (M+100) m.st hm.st (by omega);have f:=GN name;have h:=GN r;have j:Gam.pureD (callF tab ext (M+100)) 127 [.sl false 2 [],.sl false 2 [],.fn 74 []]=some (boolX true):=by kernel_rfl
 obtain ⟨⟨e,p⟩,B,o,⟨l,n,q,w,y,A⟩⟩:=m;cases t<;>cases u<;>exact puA [(9,.p (boolX true)),(22,.b true),(29,.b true),(36,.p (boolX true))] (pf4 a f h j) (boolX true)
theorem VZ (s:Stt)(hs:s.ok)(m:Msg)(hm:m.ok)(t u:Bool)(name r:qaX)(N:Nat)(hN:190400<=N):Gam.pureD (callF tab ext N) 9 [.agg (fC t s m name r),.agg (fC u s m name r)]=some (boolX true):=by
 obtain ⟨M,rfl⟩:∃M,N=M+101:=⟨N-101,by omega⟩;have y:=uT (M+100) s hs (by omega);have A:Gam.pureD (callF tab ext (M+100)) 31 [.sl false 6 [zgl t (Fte.mk m.st 4 name [] r)],.sl false 6 [zgl u (Fte.mk m.st 4 name [] r)]]=some (boolX true):=by have h:=Tn m hm false false name r (M+99) (by omega);obtain ⟨⟨e,p⟩,E,o,⟨f,j,l,n,q,w⟩⟩:=m;exact puA [(25,.p (boolX true))] (pf1 h) (boolX true)
 have B:Gam.pureD (callF tab ext (M+100)) 32 [.sl false 10 [m.cells],.sl false 10 [m.cells]]=some (boolX true):=by have h:=pV (M+99) m hm (by omega);obtain ⟨⟨e,p⟩,E,o,⟨f,j,l,n,q,w⟩⟩:=m;exact puA [(25,.p (boolX true))] (pf1 h) (boolX true)
 obtain ⟨a,b,F⟩:=s;exact puA [(10,.p (boolX true)),(67,.p (boolX true)),(74,.p (boolX true))] (pf3 y A B) (boolX true)
end Go.Proofs.YtcbeoccmflnejaaGreatDoor
