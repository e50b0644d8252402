/-.-/
import Derived.Below
import Derived.Test.YtcbeoccmflnejaaGreatDoorEmU6
set_option linter.all false
namespace Go.Em
section
open Go.RowKit
variable {f:FuncId}{K:Kn}{inb:List Bx}{args:List X}{u:Value}
variable {P:Program} {R:CodeRel} {w w':World}
theorem below_of_frame (h:FrameOk nowhere w w'):Below w.heap.size w w':=by
 refine ⟨h.os,h.tape,h.output,h.size,fun k n=>?_⟩;rcases h.block k n with ⟨a,_,_⟩|a|⟨j,f,el,q,a,l,u,m⟩;·exact (a 0).elim
 ·exact a.symm
 have:j=f:=Array.ext_getElem? fun i=>m i id;rw [a,l,this]
theorem calls_of_data {outb:List Bx}{cargs:Array Value}(h:FSem P R f args [] (.v u) outb)(hg:GlobOk R K)(hK:∀(b o:Nat) (v:Value),K b o=some v->w.cell? ⟨b,o,none⟩=some v)(ha:ArgsRep K [] args cargs):
  Calls P f cargs w fun e w'=>e=.returned u/\Below w.heap.size w w':=by
 have n:Inv P R K [] [] w:=⟨hg,hK,rfl,fun b o a=>(owns_nil a).elim,fun i j c d A B b o _ q=>by simp at q,fun i B c m=>by simp at m⟩;refine (h K [] w cargs n ha).mono ?_
 rintro e w' ⟨v,y,E,rfl,l⟩
 have:=rep_v l.res;subst this;exact ⟨rfl,below_of_frame (l.frame.mono fun b o _ a=>(owns_nil a).elim)⟩
theorem owns_same {C:List CB}(hI:Inv P R K C inb w):Inv P R K (C++[]) inb w:=by rw [List.append_nil];exact hI
theorem fsem_pure (hu:okV u=true)(h:∀(cargs:Array Value) (w:World) (K:Kn) (C:List CB),ArgsRep K C args cargs->Calls P f cargs w fun e w'=>e=.returned u/\w'=w):FSem P R f args inb (.v u) inb:=by
 intro K C w cargs l m;refine (h cargs w K C m).mono ?_
 rintro e w' ⟨rfl,rfl⟩
 exact ⟨u,K,[],rfl,owns_same l,.v hu,KLe.refl _,fun b o v e=>.inl e,fun b o a=>.inl (by rw [List.append_nil] at a;exact a),.refl _ _,fun i B j n=>⟨B,j,n⟩⟩
end
section
variable {Γ:Gam}{inb:List Bx}{args:List X}{r:Option (X×List Bx)}{fin σ σ':St}{y:X}
theorem pf0:allP []:=trivial
section
variable {a b c d e f g h i j k l m n:Prop}
theorem pf1 (h1:a):allP [a]:=⟨h1,trivial⟩
theorem pf2 (h1:a)(h2:b):allP [a,b]:=⟨h1,pf1 h2⟩
theorem pf3 (h1:a)(h2:b)(h3:c):allP [a,b,c]:=⟨h1,pf2 h2 h3⟩
theorem pf4 (h1:a)(h2:b)(h3:c)(h4:d):allP [a,b,c,d]:=⟨h1,pf3 h2 h3 h4⟩
theorem pf5 (h1:a)(h2:b)(h3:c)(h4:d)(h5:e):allP [a,b,c,d,e]:=⟨h1,pf4 h2 h3 h4 h5⟩
theorem pf6 (h1:a)(h2:b)(h3:c)(h4:d)(h5:e)(h6:f):allP [a,b,c,d,e,f]:=⟨h1,pf5 h2 h3 h4 h5 h6⟩
theorem pf7 (h1:a)(h2:b)(h3:c)(h4:d)(h5:e)(h6:f)(h7:g):allP [a,b,c,d,e,f,g]:=⟨h1,pf6 h2 h3 h4 h5 h6 h7⟩
theorem pf8 (h1:a)(h2:b)(h3:c)(h4:d)(h5:e)(h6:f)(h7:g)(h8:h):allP [a,b,c,d,e,f,g,h]:=⟨h1,pf7 h2 h3 h4 h5 h6 h7 h8⟩
theorem pf9 (h1:a)(h2:b)(h3:c)(h4:d)(h5:e)(h6:f)(h7:g)(h8:h)(h9:i):allP [a,b,c,d,e,f,g,h,i]:=⟨h1,pf8 h2 h3 h4 h5 h6 h7 h8 h9⟩
theorem pf10 (h1:a)(h2:b)(h3:c)(h4:d)(h5:e)(h6:f)(h7:g)(h8:h)(h9:i)(h10:j):allP [a,b,c,d,e,f,g,h,i,j]:=⟨h1,pf9 h2 h3 h4 h5 h6 h7 h8 h9 h10⟩
theorem pf11 (h1:a)(h2:b)(h3:c)(h4:d)(h5:e)(h6:f)(h7:g)(h8:h)(h9:i)(h10:j)(h11:k):allP [a,b,c,d,e,f,g,h,i,j,k]:=⟨h1,pf10 h2 h3 h4 h5 h6 h7 h8 h9 h10 h11⟩
theorem pf12 (h1:a)(h2:b)(h3:c)(h4:d)(h5:e)(h6:f)(h7:g)(h8:h)(h9:i)(h10:j)(h11:k)(h12:l):allP [a,b,c,d,e,f,g,h,i,j,k,l]:=⟨h1,pf11 h2 h3 h4 h5 h6 h7 h8 h9 h10 h11 h12⟩
theorem pf13 (h1:a)(h2:b)(h3:c)(h4:d)(h5:e)(h6:f)(h7:g)(h8:h)(h9:i)(h10:j)(h11:k)(h12:l)(h13:m):allP [a,b,c,d,e,f,g,h,i,j,k,l,m]:=⟨h1,pf12 h2 h3 h4 h5 h6 h7 h8 h9 h10 h11 h12 h13⟩
theorem pf14 (h1:a)(h2:b)(h3:c)(h4:d)(h5:e)(h6:f)(h7:g)(h8:h)(h9:i)(h10:j)(h11:k)(h12:l)(h13:m)(h14:n):allP [a,b,c,d,e,f,g,h,i,j,k,l,m,n]:=⟨h1,pf13 h2 h3 h4 h5 h6 h7 h8 h9 h10 h11 h12 h13 h14⟩
end
variable {T:FuncId->Option Fun} {ext:Ext} {N nIn fu:Nat} {ps:List Prop}
theorem callF_of (ans:List (Nat×Ans))(lo:List (Ex×St))(hp:allP ps){f:FuncId}(h:callA T ext N ans lo f args inb=some (r,ps)):callF T ext (N+1) (.fn f) args inb=r:=callA_sound h hp
theorem pure_of (ans:List (Nat×Ans))(lo:List (Ex×St))(hp:allP ps){f:FuncId}{x:X}{bx:List Bx}(h:callA T ext N ans lo f args []=some (some (x,bx),ps))(hd:x.data bx false=some y):Gam.pureD (callF T ext (N+1)) f args=some y:=pureD_of (callA_sound h hp) hd
theorem run_of (ans:List (Nat×Ans))(lo:List (Ex×St))(hp:allP ps){m:C}{lo':List (Ex×St)}{e:Ex}(h:runA Γ ans nIn fu m σ lo=some (e,σ',lo',ps)):run Γ nIn fu m σ=some (e,σ'):=runA_sound h hp
theorem yield_of (ans:List (Nat×Ans))(hp:allP ps)(h:roundA (callF T ext N) N ans args inb=some (r,ps)):callF T ext (N+1) .yl args inb=r:=yieldA_sound h hp
theorem puA (ans:List (Nat×Ans))(hp:allP ps){f:FuncId}(x:X)(h:callA T ext N ans [] f args []=some (some (x,[]),ps):=by kernel_rfl)(hd:x.data [] false=some y:=by exact rfl):Gam.pureD (callF T ext (N+1)) f args=some y:=pure_of ans [] hp h hd
theorem puB (ans:List (Nat×Ans))(lo:List (Ex×St))(hp:allP ps){f:FuncId}(x:X)(h:callA T ext N ans lo f args []=some (some (x,[]),ps):=by kernel_rfl)(hd:x.data [] false=some y:=by exact rfl):Gam.pureD (callF T ext (N+1)) f args=some y:=pure_of ans lo hp h hd
theorem ruA (ans:List (Nat×Ans))(hp:allP ps){m:C}{e:Ex}(h:runA Γ ans nIn fu m σ []=some (e,σ',[],ps):=by kernel_rfl):run Γ nIn fu m σ=some (e,σ'):=runA_sound h hp
theorem ruB (ans:List (Nat×Ans))(lo:List (Ex×St))(hp:allP ps){m:C}{e:Ex}(h:runA Γ ans nIn fu m σ lo=some (e,σ',[],ps):=by kernel_rfl):run Γ nIn fu m σ=some (e,σ'):=runA_sound h hp
theorem yiA (ans:List (Nat×Ans))(hp:allP ps)(h:roundA (callF T ext N) N ans args inb=some (r,ps):=by kernel_rfl):callF T ext (N+1) .yl args inb=r:=yieldA_sound h hp
theorem caA (ans:List (Nat×Ans))(hp:allP ps){f:FuncId}(h:callA T ext N ans [] f args inb=some (r,ps):=by kernel_rfl):callF T ext (N+1) (.fn f) args inb=r:=callA_sound h hp
theorem caB (ans:List (Nat×Ans))(lo:List (Ex×St))(hp:allP ps){f:FuncId}(h:callA T ext N ans lo f args inb=some (r,ps):=by kernel_rfl):callF T ext (N+1) (.fn f) args inb=r:=callA_sound h hp
theorem rf_of {f:Opd}{qs live:List Nat}{as b:C}{g:FuncId}{caps:List X}{outb:List Bx}{q:X×List Bx×List Nat}{p:Prop}{e:Ex}(hp:p)(hf:σ.ev f=some (.fn g caps))
  (h:callRefA Γ (.fn g) (.yl σ.bx.length::caps) (σ.bx++[.loop .ready none (keep live σ.tm) qs as b]) y outb=some (q,p)) (he:endRf σ.bx.length ⟨σ.tm,q.2.1⟩=some (e,σ')):run Γ nIn fu (.rf f qs live as b) σ=some (e,σ'):=by
 simp only [run,hf,callRefA_sound h hp,he]
theorem loop_for {b:C}{σ:Nat->St}{k:Nat}{τ:St}{e:Ex}(h0:canon nIn τ=some (σ 0))(hs:∀j,j<k->∃υ,run Γ nIn fu b (σ j)=some (.norm,υ)/\canon nIn υ=some (σ (j+1)))(he:run Γ nIn fu b (σ k)=some (e,fin))(hne:e≠.norm)(hF:k<fu):
  run Γ nIn fu (.loop b) τ=some (e,fin):=by
 have m:∀d j F υ,j+d=k->d<F->canon nIn υ=some (σ j)->iter nIn (run Γ nIn fu b) F υ=some (e,fin):=by
  intro d;induction d with
  |zero=>
   intro j F υ l hF a;obtain ⟨F',rfl⟩:∃F',F=F'+1:=⟨F-1,by omega⟩
   grind[iter_end]
  |succ d ih=>intro j F υ l hF a;obtain ⟨F',rfl⟩:∃F',F=F'+1:=⟨F-1,by omega⟩;obtain ⟨ω,f,h⟩:=hs j (by omega);exact iter_step a f (ih (j+1) F' ω (by omega) (by omega) h)
 grind[run]
theorem loop_dec {α:Type}{b:C}{σ:α->St}{I:α->Prop}{μ:α->Nat}{e:Ex}(hstep:∀a,I a->(∃υ a',run Γ nIn fu b (σ a)=some (.norm,υ)/\canon nIn υ=some (σ a')/\I a'/\μ a'<μ a)\/run Γ nIn fu b (σ a)=some (e,fin))(hne:e≠.norm)
  {a:α} {τ:St} (ha:I a) (hτ:canon nIn τ=some (σ a)) (hF:μ a<fu):run Γ nIn fu (.loop b) τ=some (e,fin):=by
 have u:∀d a F υ,μ a<=d->d<F->I a->canon nIn υ=some (σ a)->iter nIn (run Γ nIn fu b) F υ=some (e,fin):=by
  intro d;induction d with
  |zero=>
   intro a F υ q hF f j;obtain ⟨F',rfl⟩:∃F',F=F'+1:=⟨F-1,by omega⟩
   grind[iter_end]
  |succ d ih=>
   intro a F υ q hF f j;obtain ⟨F',rfl⟩:∃F',F=F'+1:=⟨F-1,by omega⟩;rcases hstep a f with ⟨ω,a',l,m,n,w⟩|h;·exact iter_step j l (ih a' F' ω (by omega) (by omega) n m)
   grind[iter_end]
 simp only [run]
 grind
end
end Go.Em
