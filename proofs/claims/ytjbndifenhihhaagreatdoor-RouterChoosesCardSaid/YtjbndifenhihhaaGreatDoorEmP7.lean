/- The abstract machine: a contract on data, in the kit's words. -/
import Derived.Below
import Derived.Test.YtjbndifenhihhaaGreatDoorEmP5
import Derived.Test.YtjbndifenhihhaaGreatDoorEmP6
namespace Go.Em
open Go.RowKit
variable {P:Program} {R:aN} {w w':World}
theorem Bz (h:aP nowhere w w'):Below w.heap.size w w':=by
 refine ⟨h.os,h.tape,h.output,h.size,fun k hk=>?_⟩
 rcases h.block k hk with ⟨h1,_,_⟩|h1|⟨cs,cs',el,fr,h1,h2,h3,h4⟩
 ·exact (h1 0).elim
 ·exact h1.symm
 ·have:cs=cs':=Array.ext_getElem? fun i=>h4 i id
  rw [h1,h2,this]
theorem FQ {f:FuncId}{args:List X}{u:Value}{outb:List Bx}{aK:Array Value}{K:Kn}(h:FX P R f args [] (.v u) outb)(hg:nV R K)(hK:∀(b o:Nat) (v:Value),K b o=some v→w.cell? ⟨b,o,none⟩=some v)(ha:bU K [] args aK):
  Calls P f aK w fun e w'=>e=.returned u∧Below w.heap.size w w':=by
 have hI:Inv P R K [] [] w:=⟨hg,hK,rfl,fun b o ho=>(lu ho).elim,fun i j c d A B b o _ hc=>by simp at hc,fun i B c hB=>by simp at hB⟩
 refine (h K [] w aK hI ha).mono ?_
 rintro e w' ⟨v,K',E,rfl,hp⟩
 have:=eH hp.res
 subst this
 exact ⟨rfl,Bz (hp.frame.mono fun b o _ ho=>(lu ho).elim)⟩
theorem y8 {K:Kn}{C:List CB}{inb:List Bx}(hI:Inv P R K C inb w):Inv P R K (C++[]) inb w:=by rw [List.append_nil];exact hI
theorem Wq {f:FuncId}{args:List X}{inb:List Bx}{u:Value}(hu:okV u=true)(h:∀(aK:Array Value) (w:World) (K:Kn) (C:List CB),bU K C args aK→Calls P f aK w fun e w'=>e=.returned u∧w'=w):FX P R f args inb (.v u) inb:=by
 intro K C w aK hI ha
 refine (h aK w K C ha).mono ?_
 rintro e w' ⟨rfl,rfl⟩
 exact ⟨u,K,[],rfl,y8 hI,.v hu,KLe.refl _,fun b o v e=>.inl e,fun b o ho=>.inl (by rw [List.append_nil] at ho;exact ho),.refl _ _,fun i B hB hl=>⟨B,hB,hl⟩⟩
end Go.Em
namespace Go.Em
theorem pf0:lU []:=trivial
section
variable {a b c d e f g h i j k l m n:Prop}
theorem pf1 (h1:a):lU [a]:=⟨h1,trivial⟩
theorem pf2 (h1:a)(h2:b):lU [a,b]:=⟨h1,pf1 h2⟩
theorem pf3 (h1:a)(h2:b)(h3:c):lU [a,b,c]:=⟨h1,pf2 h2 h3⟩
theorem pf4 (h1:a)(h2:b)(h3:c)(h4:d):lU [a,b,c,d]:=⟨h1,pf3 h2 h3 h4⟩
theorem pf5 (h1:a)(h2:b)(h3:c)(h4:d)(h5:e):lU [a,b,c,d,e]:=⟨h1,pf4 h2 h3 h4 h5⟩
theorem pf6 (h1:a)(h2:b)(h3:c)(h4:d)(h5:e)(h6:f):lU [a,b,c,d,e,f]:=⟨h1,pf5 h2 h3 h4 h5 h6⟩
theorem pf7 (h1:a)(h2:b)(h3:c)(h4:d)(h5:e)(h6:f)(h7:g):lU [a,b,c,d,e,f,g]:=⟨h1,pf6 h2 h3 h4 h5 h6 h7⟩
theorem pf8 (h1:a)(h2:b)(h3:c)(h4:d)(h5:e)(h6:f)(h7:g)(h8:h):lU [a,b,c,d,e,f,g,h]:=⟨h1,pf7 h2 h3 h4 h5 h6 h7 h8⟩
theorem pf9 (h1:a)(h2:b)(h3:c)(h4:d)(h5:e)(h6:f)(h7:g)(h8:h)(h9:i):lU [a,b,c,d,e,f,g,h,i]:=⟨h1,pf8 h2 h3 h4 h5 h6 h7 h8 h9⟩
theorem zgY (h1:a)(h2:b)(h3:c)(h4:d)(h5:e)(h6:f)(h7:g)(h8:h)(h9:i)(h10:j):lU [a,b,c,d,e,f,g,h,i,j]:=⟨h1,pf9 h2 h3 h4 h5 h6 h7 h8 h9 h10⟩
theorem zml (h1:a)(h2:b)(h3:c)(h4:d)(h5:e)(h6:f)(h7:g)(h8:h)(h9:i)(h10:j)(h11:k):lU [a,b,c,d,e,f,g,h,i,j,k]:=⟨h1,zgY h2 h3 h4 h5 h6 h7 h8 h9 h10 h11⟩
theorem ziI (h1:a)(h2:b)(h3:c)(h4:d)(h5:e)(h6:f)(h7:g)(h8:h)(h9:i)(h10:j)(h11:k)(h12:l):lU [a,b,c,d,e,f,g,h,i,j,k,l]:=⟨h1,zml h2 h3 h4 h5 h6 h7 h8 h9 h10 h11 h12⟩
theorem zjM (h1:a)(h2:b)(h3:c)(h4:d)(h5:e)(h6:f)(h7:g)(h8:h)(h9:i)(h10:j)(h11:k)(h12:l)(h13:m):lU [a,b,c,d,e,f,g,h,i,j,k,l,m]:=⟨h1,ziI h2 h3 h4 h5 h6 h7 h8 h9 h10 h11 h12 h13⟩
theorem zmk (h1:a)(h2:b)(h3:c)(h4:d)(h5:e)(h6:f)(h7:g)(h8:h)(h9:i)(h10:j)(h11:k)(h12:l)(h13:m)(h14:n):lU [a,b,c,d,e,f,g,h,i,j,k,l,m,n]:=⟨h1,zjM h2 h3 h4 h5 h6 h7 h8 h9 h10 h11 h12 h13 h14⟩
end
variable {T:FuncId→Option Fun} {ext:Ext} {N nIn fu:Nat} {ps:List Prop}
theorem aB (ans:List (Nat×Ans))(lo:List (Ex×St))(hp:lU ps){f:FuncId}{args:List X}{inb:List Bx}{r:Option (X×List Bx)}(h:zaG T ext N ans lo f args inb=some (r,ps)):callF T ext (N+1) (.fn f) args inb=r:=Aw h hp
theorem pure_of (ans:List (Nat×Ans))(lo:List (Ex×St))(hp:lU ps){f:FuncId}{args:List X}{x y:X}{bx:List Bx}(h:zaG T ext N ans lo f args []=some (some (x,bx),ps))(hd:x.data bx false=some y):Gam.pureD (callF T ext (N+1)) f args=some y:=bP (Aw h hp) hd
theorem run_of {Γ:Gam}(ans:List (Nat×Ans))(lo:List (Ex×St))(hp:lU ps){m:C}{σ σ':St}{lo':List (Ex×St)}{e:Ex}(h:yT Γ ans nIn fu m σ lo=some (e,σ',lo',ps)):run Γ nIn fu m σ=some (e,σ'):=iQ h hp
theorem aG (ans:List (Nat×Ans))(hp:lU ps){args:List X}{inb:List Bx}{r:Option (X×List Bx)}(h:NK (callF T ext N) N ans args inb=some (r,ps)):callF T ext (N+1) .yl args inb=r:=Gs h hp
theorem YH {Γ:Gam}{f:Opd}{qs live:List Nat}{as b:C}{σ σ':St}{g:FuncId}{caps:List X}{y:X}{outb:List Bx}{q:X×List Bx×List Nat}{p:Prop}{e:Ex}(hp:p)(hf:σ.ev f=some (.fn g caps))
  (h:ql Γ (.fn g) (.yl σ.bx.length::caps) (σ.bx++[.loop .ready none (keep live σ.tm) qs as b]) y outb=some (q,p)) (he:zam σ.bx.length ⟨σ.tm,q.2.1⟩=some (e,σ')):run Γ nIn fu (.rf f qs live as b) σ=some (e,σ'):=by
 simp only [run,hf,jc h hp,he]
theorem dR {Γ:Gam}{b:C}{σ:Nat→St}{k:Nat}{τ fin:St}{e:Ex}(h0:canon nIn τ=some (σ 0))(hs:∀j,j<k→∃υ,run Γ nIn fu b (σ j)=some (.norm,υ)∧canon nIn υ=some (σ (j+1)))(he:run Γ nIn fu b (σ k)=some (e,fin))(hne:e≠.norm)(hF:k<fu):
  run Γ nIn fu (.loop b) τ=some (e,fin):=by
 have key:∀d j F υ,j+d=k→d<F→canon nIn υ=some (σ j)→iter nIn (run Γ nIn fu b) F υ=some (e,fin):=by
  intro d
  induction d with
  |zero=>
   intro j F υ hj hF hc
   obtain ⟨F',rfl⟩:∃F',F=F'+1:=⟨F-1,by omega⟩
   have hjk:j=k:=by omega
   subst hjk
   exact bC hc he hne
  |succ d ih=>
   intro j F υ hj hF hc
   obtain ⟨F',rfl⟩:∃F',F=F'+1:=⟨F-1,by omega⟩
   obtain ⟨ω,h1,h2⟩:=hs j (by omega)
   exact dG hc h1 (ih (j+1) F' ω (by omega) (by omega) h2)
 simp only [run]
 exact key k 0 fu τ (by omega) hF h0
end Go.Em
