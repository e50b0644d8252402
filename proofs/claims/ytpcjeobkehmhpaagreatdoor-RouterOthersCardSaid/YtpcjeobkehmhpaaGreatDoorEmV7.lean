/-.-/
import Derived.Below
import Derived.Test.YtpcjeobkehmhpaaGreatDoorEmV5
import Derived.Test.YtpcjeobkehmhpaaGreatDoorEmV6
set_option linter.all false
namespace Go.Em
section
open Go.RowKit
variable {f:FuncId}{K:Kn}{inb:List Bx}{args:List X}{u:Value}
variable {P:Program} {R:aT} {w w':World}
theorem EU (h:aO nowhere w w'):Below w.heap.size w w':=by
 refine ⟨h.os,h.tape,h.output,h.size,fun k m=>?_⟩;rcases h.block k m with ⟨a,_,_⟩|a|⟨n,f,el,q,a,l,u,j⟩;·exact (a 0).elim
 ·exact a.symm
 have:n=f:=Array.ext_getElem? fun i=>j i id;rw [a,l,this]
theorem JX {outb:List Bx}{aQ:Array Value}(h:EZ P R f args [] (.v u) outb)(hg:qy R K)(hK:∀(b o:Nat) (v:Value),K b o=some v->w.cell? ⟨b,o,none⟩=some v)(ha:dG K [] args aQ):
  Calls P f aQ w fun e w'=>e=.returned u/\Below w.heap.size w w':=by
 have m:Inv P R K [] [] w:=⟨hg,hK,rfl,fun b o a=>(mV a).elim,fun i j c d A B b o _ n=>by simp at n,fun i B c q=>by simp at q⟩;refine (h K [] w aQ m ha).mono ?_
 rintro e w' ⟨v,y,E,rfl,l⟩
 have:=fH l.res;subst this;exact ⟨rfl,EU (l.frame.mono fun b o _ a=>(mV a).elim)⟩
theorem BU {C:List CB}(hI:Inv P R K C inb w):Inv P R K (C++[]) inb w:=by rw [List.append_nil];exact hI
theorem zaW (hu:okV u=true)(h:∀(aQ:Array Value) (w:World) (K:Kn) (C:List CB),dG K C args aQ->Calls P f aQ w fun e w'=>e=.returned u/\w'=w):EZ P R f args inb (.v u) inb:=by
 intro K C w aQ n m;refine (h aQ w K C m).mono ?_
 rintro e w' ⟨rfl,rfl⟩
 exact ⟨u,K,[],rfl,BU n,.v hu,KLe.refl _,fun b o v e=>.inl e,fun b o a=>.inl (by rw [List.append_nil] at a;exact a),.refl _ _,fun i B j l=>⟨B,j,l⟩⟩
end
section
variable {Γ:Gam}{inb:List Bx}{args:List X}{r:Option (X×List Bx)}{σ σ':St}{y:X}
theorem pf0:kX []:=trivial
section
variable {a b c d e f g h i j k l m n:Prop}
theorem pf1 (h1:a):kX [a]:=⟨h1,trivial⟩
theorem pf2 (h1:a)(h2:b):kX [a,b]:=⟨h1,pf1 h2⟩
theorem pf3 (h1:a)(h2:b)(h3:c):kX [a,b,c]:=⟨h1,pf2 h2 h3⟩
theorem pf4 (h1:a)(h2:b)(h3:c)(h4:d):kX [a,b,c,d]:=⟨h1,pf3 h2 h3 h4⟩
theorem pf5 (h1:a)(h2:b)(h3:c)(h4:d)(h5:e):kX [a,b,c,d,e]:=⟨h1,pf4 h2 h3 h4 h5⟩
theorem pf6 (h1:a)(h2:b)(h3:c)(h4:d)(h5:e)(h6:f):kX [a,b,c,d,e,f]:=⟨h1,pf5 h2 h3 h4 h5 h6⟩
theorem pf7 (h1:a)(h2:b)(h3:c)(h4:d)(h5:e)(h6:f)(h7:g):kX [a,b,c,d,e,f,g]:=⟨h1,pf6 h2 h3 h4 h5 h6 h7⟩
theorem pf8 (h1:a)(h2:b)(h3:c)(h4:d)(h5:e)(h6:f)(h7:g)(h8:h):kX [a,b,c,d,e,f,g,h]:=⟨h1,pf7 h2 h3 h4 h5 h6 h7 h8⟩
theorem pf9 (h1:a)(h2:b)(h3:c)(h4:d)(h5:e)(h6:f)(h7:g)(h8:h)(h9:i):kX [a,b,c,d,e,f,g,h,i]:=⟨h1,pf8 h2 h3 h4 h5 h6 h7 h8 h9⟩
theorem znC (h1:a)(h2:b)(h3:c)(h4:d)(h5:e)(h6:f)(h7:g)(h8:h)(h9:i)(h10:j):kX [a,b,c,d,e,f,g,h,i,j]:=⟨h1,pf9 h2 h3 h4 h5 h6 h7 h8 h9 h10⟩
theorem ztG (h1:a)(h2:b)(h3:c)(h4:d)(h5:e)(h6:f)(h7:g)(h8:h)(h9:i)(h10:j)(h11:k):kX [a,b,c,d,e,f,g,h,i,j,k]:=⟨h1,znC h2 h3 h4 h5 h6 h7 h8 h9 h10 h11⟩
theorem zpC (h1:a)(h2:b)(h3:c)(h4:d)(h5:e)(h6:f)(h7:g)(h8:h)(h9:i)(h10:j)(h11:k)(h12:l):kX [a,b,c,d,e,f,g,h,i,j,k,l]:=⟨h1,ztG h2 h3 h4 h5 h6 h7 h8 h9 h10 h11 h12⟩
theorem zqP (h1:a)(h2:b)(h3:c)(h4:d)(h5:e)(h6:f)(h7:g)(h8:h)(h9:i)(h10:j)(h11:k)(h12:l)(h13:m):kX [a,b,c,d,e,f,g,h,i,j,k,l,m]:=⟨h1,zpC h2 h3 h4 h5 h6 h7 h8 h9 h10 h11 h12 h13⟩
theorem ztF (h1:a)(h2:b)(h3:c)(h4:d)(h5:e)(h6:f)(h7:g)(h8:h)(h9:i)(h10:j)(h11:k)(h12:l)(h13:m)(h14:n):kX [a,b,c,d,e,f,g,h,i,j,k,l,m,n]:=⟨h1,zqP h2 h3 h4 h5 h6 h7 h8 h9 h10 h11 h12 h13 h14⟩
end
variable {T:FuncId->Option Fun} {ext:Ext} {N nIn fu:Nat} {ps:List Prop}
theorem zfv (ans:List (Nat×Ans))(lo:List (Ex×St))(hp:kX ps){f:FuncId}(h:NP T ext N ans lo f args inb=some (r,ps)):ah T ext (N+1) (.fn f) args inb=r:=qg h hp
theorem eU (ans:List (Nat×Ans))(lo:List (Ex×St))(hp:kX ps){f:FuncId}{x:X}{bx:List Bx}(h:NP T ext N ans lo f args []=some (some (x,bx),ps))(hd:x.data bx false=some y):Gam.aC (ah T ext (N+1)) f args=some y:=aZ (qg h hp) hd
theorem nU (ans:List (Nat×Ans))(lo:List (Ex×St))(hp:kX ps){m:C}{lo':List (Ex×St)}{e:Ex}(h:zK Γ ans nIn fu m σ lo=some (e,σ',lo',ps)):run Γ nIn fu m σ=some (e,σ'):=iC h hp
theorem zpx (ans:List (Nat×Ans))(hp:kX ps)(h:Ls (ah T ext N) N ans args inb=some (r,ps)):ah T ext (N+1) .yl args inb=r:=yS h hp
theorem puA (ans:List (Nat×Ans))(hp:kX ps){f:FuncId}(x:X)(h:NP T ext N ans [] f args []=some (some (x,[]),ps):=by kernel_rfl)(hd:x.data [] false=some y:=by exact rfl):Gam.aC (ah T ext (N+1)) f args=some y:=eU ans [] hp h hd
theorem puB (ans:List (Nat×Ans))(lo:List (Ex×St))(hp:kX ps){f:FuncId}(x:X)(h:NP T ext N ans lo f args []=some (some (x,[]),ps):=by kernel_rfl)(hd:x.data [] false=some y:=by exact rfl):Gam.aC (ah T ext (N+1)) f args=some y:=eU ans lo hp h hd
theorem ruA (ans:List (Nat×Ans))(hp:kX ps){m:C}{e:Ex}(h:zK Γ ans nIn fu m σ []=some (e,σ',[],ps):=by kernel_rfl):run Γ nIn fu m σ=some (e,σ'):=iC h hp
theorem ruB (ans:List (Nat×Ans))(lo:List (Ex×St))(hp:kX ps){m:C}{e:Ex}(h:zK Γ ans nIn fu m σ lo=some (e,σ',[],ps):=by kernel_rfl):run Γ nIn fu m σ=some (e,σ'):=iC h hp
theorem yiA (ans:List (Nat×Ans))(hp:kX ps)(h:Ls (ah T ext N) N ans args inb=some (r,ps):=by kernel_rfl):ah T ext (N+1) .yl args inb=r:=yS h hp
theorem caA (ans:List (Nat×Ans))(hp:kX ps){f:FuncId}(h:NP T ext N ans [] f args inb=some (r,ps):=by kernel_rfl):ah T ext (N+1) (.fn f) args inb=r:=qg h hp
theorem caB (ans:List (Nat×Ans))(lo:List (Ex×St))(hp:kX ps){f:FuncId}(h:NP T ext N ans lo f args inb=some (r,ps):=by kernel_rfl):ah T ext (N+1) (.fn f) args inb=r:=qg h hp
theorem Vk {f:Opd}{qs live:List Nat}{as b:C}{g:FuncId}{caps:List X}{outb:List Bx}{q:X×List Bx×List Nat}{p:Prop}{e:Ex}(hp:p)(hf:σ.ev f=some (.fn g caps))
  (h:sW Γ (.fn g) (.yl σ.bx.length::caps) (σ.bx++[.loop .ready none (keep live σ.tm) qs as b]) y outb=some (q,p)) (he:zfe σ.bx.length ⟨σ.tm,q.2.1⟩=some (e,σ')):run Γ nIn fu (.rf f qs live as b) σ=some (e,σ'):=by
 simp only [run,hf,jU h hp,he]
theorem bF {b:C}{σ:Nat->St}{k:Nat}{τ fin:St}{e:Ex}(h0:canon nIn τ=some (σ 0))(hs:∀j,j<k->∃υ,run Γ nIn fu b (σ j)=some (.norm,υ)/\canon nIn υ=some (σ (j+1)))(he:run Γ nIn fu b (σ k)=some (e,fin))(hne:e≠.norm)(hF:k<fu):
  run Γ nIn fu (.loop b) τ=some (e,fin):=by
 have f:∀d j F υ,j+d=k->d<F->canon nIn υ=some (σ j)->iter nIn (run Γ nIn fu b) F υ=some (e,fin):=by
  intro d;induction d with
  |zero=>
   intro j F υ l hF a;obtain ⟨F',rfl⟩:∃F',F=F'+1:=⟨F-1,by omega⟩
   grind[bK]
  |succ d ih=>intro j F υ l hF a;obtain ⟨F',rfl⟩:∃F',F=F'+1:=⟨F-1,by omega⟩;obtain ⟨ω,h,m⟩:=hs j (by omega);exact dY a h (ih (j+1) F' ω (by omega) (by omega) m)
 grind[run]
end
end Go.Em
