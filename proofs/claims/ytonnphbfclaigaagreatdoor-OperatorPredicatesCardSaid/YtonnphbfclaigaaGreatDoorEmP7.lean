/-.-/
import Derived.Below
import Derived.Test.YtonnphbfclaigaaGreatDoorEmP6
set_option linter.all false
namespace Go.Em
open Go.RowKit
variable {f:FuncId}{K:Kn}{inb:List Bx}{args:List X}{u:Value}
variable {P:Program} {R:CodeRel} {w w':World}
theorem below_of_frame (h:FrameOk nowhere w w'):Below w.heap.size w w':=by
 refine ⟨h.os,h.tape,h.output,h.size,fun k hk=>?_⟩;rcases h.block k hk with ⟨h1,_,_⟩|h1|⟨cs,cs',el,fr,h1,h2,h3,h4⟩;·exact (h1 0).elim
 ·exact h1.symm
 have:cs=cs':=Array.ext_getElem? fun i=>h4 i id;rw [h1,h2,this]
theorem calls_of_data {outb:List Bx}{cargs:Array Value}(h:FSem P R f args [] (.v u) outb)(hg:GlobOk R K)(hK:∀(b o:Nat) (v:Value),K b o=some v->w.cell? ⟨b,o,none⟩=some v)(ha:ArgsRep K [] args cargs):
  Calls P f cargs w fun e w'=>e=.returned u/\Below w.heap.size w w':=by
 have hI:Inv P R K [] [] w:=⟨hg,hK,rfl,fun b o ho=>(owns_nil ho).elim,fun i j c d A B b o _ hc=>by simp at hc,fun i B c hB=>by simp at hB⟩;refine (h K [] w cargs hI ha).mono ?_
 rintro e w' ⟨v,K',E,rfl,hp⟩
 have:=rep_v hp.res;subst this;exact ⟨rfl,below_of_frame (hp.frame.mono fun b o _ ho=>(owns_nil ho).elim)⟩
theorem owns_same {C:List CB}(hI:Inv P R K C inb w):Inv P R K (C++[]) inb w:=by rw [List.append_nil];exact hI
theorem fsem_pure (hu:okV u=true)(h:∀(cargs:Array Value) (w:World) (K:Kn) (C:List CB),ArgsRep K C args cargs->Calls P f cargs w fun e w'=>e=.returned u/\w'=w):FSem P R f args inb (.v u) inb:=by
 intro K C w cargs hI ha;refine (h cargs w K C ha).mono ?_
 rintro e w' ⟨rfl,rfl⟩
 exact ⟨u,K,[],rfl,owns_same hI,.v hu,KLe.refl _,fun b o v e=>.inl e,fun b o ho=>.inl (by rw [List.append_nil] at ho;exact ho),.refl _ _,fun i B hB hl=>⟨B,hB,hl⟩⟩
end Go.Em
namespace Go.Em
variable {Γ:Gam}{args:List X}
theorem pf0:allP []:=trivial
section
variable {a b c d e f g h i j k l m n:Prop}
theorem pf1 (h1:a):allP [a]:=⟨h1,trivial⟩
theorem pf2 (h1:a)(h2:b):allP [a,b]:=⟨h1,pf1 h2⟩
theorem pf3 (h1:a)(h2:b)(h3:c):allP [a,b,c]:=⟨h1,pf2 h2 h3⟩
theorem pf4 (h1:a)(h2:b)(h3:c)(h4:d):allP [a,b,c,d]:=⟨h1,pf3 h2 h3 h4⟩
theorem pf5 (h1:a)(h2:b)(h3:c)(h4:d)(h5:e):allP [a,b,c,d,e]:=⟨h1,pf4 h2 h3 h4 h5⟩
theorem pf6 (h1:a)(h2:b)(h3:c)(h4:d)(h5:e)(h6:f):allP [a,b,c,d,e,f]:=⟨h1,pf5 h2 h3 h4 h5 h6⟩
theorem pf7 (h1:a)(h2:b)(h3:c)(h4:d)(h5:e)(h6:f)(h7:g):allP [a,b,c,d,e,f,g]:=⟨h1,pf6 h2 h3 h4 h5 h6 h7⟩
theorem pf8 (h1:a)(h2:b)(h3:c)(h4:d)(h5:e)(h6:f)(h7:g)(h8:h):allP [a,b,c,d,e,f,g,h]:=⟨h1,pf7 h2 h3 h4 h5 h6 h7 h8⟩
theorem pf9 (h1:a)(h2:b)(h3:c)(h4:d)(h5:e)(h6:f)(h7:g)(h8:h)(h9:i):allP [a,b,c,d,e,f,g,h,i]:=⟨h1,pf8 h2 h3 h4 h5 h6 h7 h8 h9⟩
theorem pf10 (h1:a)(h2:b)(h3:c)(h4:d)(h5:e)(h6:f)(h7:g)(h8:h)(h9:i)(h10:j):allP [a,b,c,d,e,f,g,h,i,j]:=⟨h1,pf9 h2 h3 h4 h5 h6 h7 h8 h9 h10⟩
theorem pf11 (h1:a)(h2:b)(h3:c)(h4:d)(h5:e)(h6:f)(h7:g)(h8:h)(h9:i)(h10:j)(h11:k):allP [a,b,c,d,e,f,g,h,i,j,k]:=⟨h1,pf10 h2 h3 h4 h5 h6 h7 h8 h9 h10 h11⟩
theorem pf12 (h1:a)(h2:b)(h3:c)(h4:d)(h5:e)(h6:f)(h7:g)(h8:h)(h9:i)(h10:j)(h11:k)(h12:l):allP [a,b,c,d,e,f,g,h,i,j,k,l]:=⟨h1,pf11 h2 h3 h4 h5 h6 h7 h8 h9 h10 h11 h12⟩
theorem pf13 (h1:a)(h2:b)(h3:c)(h4:d)(h5:e)(h6:f)(h7:g)(h8:h)(h9:i)(h10:j)(h11:k)(h12:l)(h13:m):allP [a,b,c,d,e,f,g,h,i,j,k,l,m]:=⟨h1,pf12 h2 h3 h4 h5 h6 h7 h8 h9 h10 h11 h12 h13⟩
theorem pf14 (h1:a)(h2:b)(h3:c)(h4:d)(h5:e)(h6:f)(h7:g)(h8:h)(h9:i)(h10:j)(h11:k)(h12:l)(h13:m)(h14:n):allP [a,b,c,d,e,f,g,h,i,j,k,l,m,n]:=⟨h1,pf13 h2 h3 h4 h5 h6 h7 h8 h9 h10 h11 h12 h13 h14⟩
end
variable {T:FuncId->Option Fun} {ext:Ext} {N nIn fu:Nat} {ps:List Prop}
theorem callF_of (ans:List (Nat×Ans))(lo:List (Ex×St))(hp:allP ps){f:FuncId}{inb:List Bx}{r:Option (X×List Bx)}(h:callA T ext N ans lo f args inb=some (r,ps)):callF T ext (N+1) (.fn f) args inb=r:=callA_sound h hp
theorem pure_of (ans:List (Nat×Ans))(lo:List (Ex×St))(hp:allP ps){f:FuncId}{x y:X}{bx:List Bx}(h:callA T ext N ans lo f args []=some (some (x,bx),ps))(hd:x.data bx false=some y):Gam.pureD (callF T ext (N+1)) f args=some y:=pureD_of (callA_sound h hp) hd
theorem run_of (ans:List (Nat×Ans))(lo:List (Ex×St))(hp:allP ps){m:C}{σ σ':St}{lo':List (Ex×St)}{e:Ex}(h:runA Γ ans nIn fu m σ lo=some (e,σ',lo',ps)):run Γ nIn fu m σ=some (e,σ'):=runA_sound h hp
theorem loop_for {b:C}{σ:Nat->St}{k:Nat}{τ fin:St}{e:Ex}(h0:canon nIn τ=some (σ 0))(hs:∀j,j<k->∃υ,run Γ nIn fu b (σ j)=some (.norm,υ)/\canon nIn υ=some (σ (j+1)))(he:run Γ nIn fu b (σ k)=some (e,fin))(hne:e≠.norm)(hF:k<fu):
  run Γ nIn fu (.loop b) τ=some (e,fin):=by
 have key:∀d j F υ,j+d=k->d<F->canon nIn υ=some (σ j)->iter nIn (run Γ nIn fu b) F υ=some (e,fin):=by
  intro d;induction d with
  |zero=>
   intro j F υ hj hF hc;obtain ⟨F',rfl⟩:∃F',F=F'+1:=⟨F-1,by omega⟩
   grind[iter_end]
  |succ d ih=>intro j F υ hj hF hc;obtain ⟨F',rfl⟩:∃F',F=F'+1:=⟨F-1,by omega⟩;obtain ⟨ω,h1,h2⟩:=hs j (by omega);exact iter_step hc h1 (ih (j+1) F' ω (by omega) (by omega) h2)
 grind[run]
end Go.Em
