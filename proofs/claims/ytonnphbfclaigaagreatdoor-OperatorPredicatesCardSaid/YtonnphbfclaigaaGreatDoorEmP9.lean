/-.-/
import Derived.Laws.AppendOwn
import Derived.Test.YtonnphbfclaigaaGreatDoorEmP8
set_option linter.all false
namespace Go.Em
open Go.RowKit
variable {P:Program} {R:CodeRel} {w w':World}
theorem frame_of_below (h:Below w.heap.size w w'):FrameOk nowhere w w':=
 ⟨h.os,h.tape,h.output,h.size,fun b hb=>.inr (.inl (h.block b hb).symm)⟩
def intRow (zs:List Int):qbI:=zs.map fun z=>[.v (.int .i64 z)]
theorem fsem_ints {f:FuncId}{args:List X}{inb:List Bx}{el:TypeId}(zs:List Int)(h:∀(cargs:Array Value) (w:World) (K:Kn) (C:List CB),Inv P R K C inb w->ArgsRep K C args cargs->
  Calls P f cargs w fun e w'=>∃v',e=.returned v'/\w'.ownsRow w.heap.size el 1 v' zs.length (zs.map (Value.int .i64))/\Below w.heap.size w w'):FSem P R f args inb (.bs inb.length 0 zs.length) (inb++[.row 1 (intRow zs)]):=by
 intro K C w cargs hI ha;refine (h cargs w K C hI ha).mono ?_
 rintro e w' ⟨v',rfl,⟨hlen,hrow⟩,hB⟩
 have hf:=frame_of_below hB;have hI':=hI.still hf;have hl:(intRow zs).length=zs.length:=by simp [intRow]
 have hsz:=hI.size;have key:∀c:CB,BoxOk P R K (C++[c]) w' (.row 1 (intRow zs)) c->(∀b o,c.owns b o->w.heap.size<=b)->Rep K (C++[c]) (.bs inb.length 0 zs.length) v'->Post P R K C inb w (.bs inb.length 0 zs.length) (inb++[.row 1 (intRow zs)]) (.returned v') w':=by
  intro c hbox hown hres;refine ⟨v',K,[c],rfl,hI'.push hbox (fun b o ho=>?_) (fun b o ho ho'=>?_),hres,KLe.refl _,fun b o v e=>.inl e,fun b o ho=>?_,hf.mono (fun b o _ hs=>hs.elim),fun i B hB hl=>⟨B,?_,hl⟩⟩
  ·cases hk:K b o with
   |none=>rfl
   |some u=>have:=hI.known_lt hk;have:=hown b o ho;omega
  ·have:=hI.owns_lt ho';have:=hown b o ho;omega
  ·rcases owns_push (by simpa using hsz) ho with ho|ho;·exact .inl ho
   exact .inr (hown b o ho)
  rw [qa6 (qaY.1 hB).1];exact hB
 have hlast:∀c:CB,(C++[c])[inb.length]?=some c:=fun c=>by rw [<-hsz];simp
 rcases hrow with ⟨rfl,hn⟩|⟨g,cap,cur,rfl,hg,hc,hncap,hmax,hsize,htake⟩;·have:zs=[]:=qbx hn;subst this;exact key .ghost rfl (fun b o ho=>ho.elim) (.bsNil (hlast _))
 refine key (.at g 0 cap 1) ⟨rfl,by rw [hl];omega,fun e he=>?_,cur,el,hc,by omega,fun i j x hx=>?_⟩ (fun b o ho=>by rw [ho.1];exact hg) ?_;·obtain ⟨z,_,rfl⟩:=qbh.1 he;rfl
 ·have:j=0/\∃z,zs[i]?=some z/\x=.v (.int .i64 z):=by
   simp only [at2,intRow,qbe] at hx;cases hz:zs[i]? with
   |none=>rw [hz] at hx;simp at hx
   |some z=>
    rw [hz] at hx;simp only [qbw,Option.bind_some] at hx;cases j with
    |zero=>simp at hx;exact ⟨rfl,z,rfl,hx.symm⟩
    |succ j=>simp at hx
  obtain ⟨rfl,z,hz,rfl⟩:=this;refine ⟨rfl,.int .i64 z,?_,.v rfl⟩;have hi:i<zs.length:=(qaY.1 hz).1;have h1:(cur.toList.take (zs.length*1))[i]?=some (.int .i64 z):=by rw [htake,qbe,hz];rfl
  rw [qbb] at h1;rw [if_pos (by omega)] at h1;have h2:cur[i]?=some (.int .i64 z):=by rw [<-Array.getElem?_toList];exact h1
  simpa using h2
 have:=@Rep.bs K (C++[.at g 0 cap 1]) inb.length 0 zs.length g 0 cap 1 cap (hlast _) (by omega) hncap;simpa using this
end Go.Em
namespace Go.Em
open Go.RowKit
variable {P:Program} {R:CodeRel} {w w':World}
theorem fsem_none {f:FuncId}{args:List X}{inb:List Bx}{el:TypeId}{k:Nat}{cargs:Array Value}{K:Kn}{C:List CB}(hI:Inv P R K C inb w)
  (h:Calls P f cargs w fun e w'=>∃v',e=.returned v'/\w'.ownsRow w.heap.size el k v' 0 []/\Below w.heap.size w w'):Calls P f cargs w (Post P R K C inb w (.bs inb.length 0 0) (inb++[.row k []])):=by
 refine h.mono ?_
 rintro e w' ⟨v',rfl,⟨hlen,hrow⟩,hB⟩
 have hf:=frame_of_below hB;have hI':=hI.still hf;have hsz:=hI.size;have key:∀c:CB,BoxOk P R K (C++[c]) w' (.row k []) c->(∀b o,c.owns b o->w.heap.size<=b)->Rep K (C++[c]) (.bs inb.length 0 0) v'->Post P R K C inb w (.bs inb.length 0 0) (inb++[.row k []]) (.returned v') w':=by
  intro c hbox hown hres;refine ⟨v',K,[c],rfl,hI'.push hbox (fun b o ho=>?_) (fun b o ho ho'=>?_),hres,KLe.refl _,fun b o v e=>.inl e,fun b o ho=>?_,hf.mono (fun b o _ hs=>hs.elim),fun i B hB hl=>⟨B,?_,hl⟩⟩
  ·cases hk:K b o with
   |none=>rfl
   |some u=>have:=hI.known_lt hk;have:=hown b o ho;omega
  ·have:=hI.owns_lt ho';have:=hown b o ho;omega
  ·rcases owns_push (by simpa using hsz) ho with ho|ho;·exact .inl ho
   exact .inr (hown b o ho)
  rw [qa6 (qaY.1 hB).1];exact hB
 have hlast:∀c:CB,(C++[c])[inb.length]?=some c:=fun c=>by rw [<-hsz];simp
 rcases hrow with ⟨rfl,hn⟩|⟨g,cap,cur,rfl,hg,hc,hncap,hmax,hsize,htake⟩;·exact key .ghost rfl (fun b o ho=>ho.elim) (.bsNil (hlast _))
 refine key (.at g 0 (cap*k) k) ⟨rfl,by simp,fun e he=>by simp at he,cur,el,hc,by omega,fun i j x hx=>by simp [at2] at hx⟩ (fun b o ho=>by rw [ho.1];exact hg) ?_;have:=@Rep.bs K (C++[.at g 0 (cap*k) k]) inb.length 0 0 g 0 (cap*k) k cap (hlast _) (by simp) hncap;simpa using this
end Go.Em
