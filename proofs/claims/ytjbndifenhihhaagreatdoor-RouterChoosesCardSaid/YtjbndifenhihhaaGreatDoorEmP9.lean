/- The abstract machine: a contract of the kit whose result is a row of numbers in memory of its own. -/
import Derived.Laws.AppendOwn
import Derived.Laws.Strings
import Derived.Test.YtjbndifenhihhaaGreatDoorEmP6
import Derived.Test.YtjbndifenhihhaaGreatDoorEmP7
import Derived.Test.YtjbndifenhihhaaGreatDoorEmP8
namespace Go.Em
open Go.RowKit
variable {P:Program} {R:aN} {w w':World}
theorem lS (h:Below w.heap.size w w'):aP nowhere w w':=
 ⟨h.os,h.tape,h.output,h.size,fun b hb=>.inr (.inl (h.block b hb).symm)⟩
def intRow (zs:List Int):List (List X):=zs.map fun z=>[.v (.int .i64 z)]
theorem Ws {f:FuncId}{args:List X}{inb:List Bx}{el:TypeId}(zs:List Int)(h:∀(aK:Array Value) (w:World) (K:Kn) (C:List CB),Inv P R K C inb w→bU K C args aK→
  Calls P f aK w fun e w'=>∃v',e=.returned v'∧w'.ownsRow w.heap.size el 1 v' zs.length (zs.map (Value.int .i64))∧Below w.heap.size w w'):FX P R f args inb (.bs inb.length 0 zs.length) (inb++[.row 1 (intRow zs)]):=by
 intro K C w aK hI ha
 refine (h aK w K C hI ha).mono ?_
 rintro e w' ⟨v',rfl,⟨hlen,hrow⟩,hB⟩
 have hf:=lS hB
 have hI':=hI.still hf
 have hl:(intRow zs).length=zs.length:=by simp [intRow]
 have hsz:=hI.size
 have key:∀c:CB,BoxOk P R K (C++[c]) w' (.row 1 (intRow zs)) c→(∀b o,c.owns b o→w.heap.size≤b)→Rep K (C++[c]) (.bs inb.length 0 zs.length) v'→Post P R K C inb w (.bs inb.length 0 zs.length) (inb++[.row 1 (intRow zs)]) (.returned v') w':=by
  intro c hbox hown hres
  refine ⟨v',K,[c],rfl,hI'.push hbox (fun b o ho=>?_) (fun b o ho ho'=>?_),hres,KLe.refl _,fun b o v e=>.inl e,fun b o ho=>?_,hf.mono (fun b o _ hs=>hs.elim),fun i B hB hl=>⟨B,?_,hl⟩⟩
  ·cases hk:K b o with
   |none=>rfl
   |some u=>have:=hI.EK hk;have:=hown b o ho;omega
  ·have:=hI.qV ho';have:=hown b o ho;omega
  ·rcases mJ (by simpa using hsz) ho with ho|ho
   ·exact .inl ho
   ·exact .inr (hown b o ho)
  ·rw [List.getElem?_append_left (List.getElem?_eq_some_iff.1 hB).1];exact hB
 have hlast:∀c:CB,(C++[c])[inb.length]?=some c:=fun c=>by rw [←hsz];simp
 rcases hrow with ⟨rfl,hn⟩|⟨g,cap,cur,rfl,hg,hc,hncap,hmax,hsize,htake⟩
 ·have:zs=[]:=List.eq_nil_of_length_eq_zero hn
  subst this
  exact key .ghost rfl (fun b o ho=>ho.elim) (.kT (hlast _))
 ·refine key (.at g 0 cap 1) ⟨rfl,by rw [hl];omega,fun e he=>?_,cur,el,hc,by omega,fun i j x hx=>?_⟩ (fun b o ho=>by rw [ho.1];exact hg) ?_
  ·obtain ⟨z,_,rfl⟩:=List.mem_map.1 he;rfl
  ·have:j=0∧∃z,zs[i]?=some z∧x=.v (.int .i64 z):=by
    simp only [at2,intRow,List.getElem?_map] at hx
    cases hz:zs[i]? with
    |none=>rw [hz] at hx;simp at hx
    |some z=>
     rw [hz] at hx
     simp only [Option.map_some,Option.bind_some] at hx
     cases j with
     |zero=>simp at hx;exact ⟨rfl,z,rfl,hx.symm⟩
     |succ j=>simp at hx
   obtain ⟨rfl,z,hz,rfl⟩:=this
   refine ⟨rfl,.int .i64 z,?_,.v rfl⟩
   have hi:i<zs.length:=(List.getElem?_eq_some_iff.1 hz).1
   have h1:(cur.toList.take (zs.length*1))[i]?=some (.int .i64 z):=by rw [htake,List.getElem?_map,hz];rfl
   rw [List.getElem?_take] at h1
   rw [if_pos (by omega)] at h1
   have h2:cur[i]?=some (.int .i64 z):=by rw [←Array.getElem?_toList];exact h1
   simpa using h2
  ·have:=@Rep.bs K (C++[.at g 0 cap 1]) inb.length 0 zs.length g 0 cap 1 cap (hlast _) (by omega) hncap
   simpa using this
end Go.Em
namespace Go.Ab
open Go.Em
structure Lin where
 s:Nat
 c:Int
 deriving Inhabited,DecidableEq
abbrev Rho:=Nat→Int
def Lin.v (l:Lin)(ρ:Rho):Int:=ρ l.s+l.c
def Lin.k (c:Int):Lin:=⟨0,c⟩
def Lin.up (l:Lin)(d:Int):Lin:=⟨l.s,l.c+d⟩
structure Fact where
 x:Nat
 y:Nat
 c:Int
 deriving Inhabited,DecidableEq
def Fact.ok (n:Nat)(ρ:Rho)(f:Fact):Prop:=f.x<n∧f.y<n∧ρ f.x≤ρ f.y+f.c
def aW (n:Nat)(ρ:Rho)(F:List Fact):Prop:=∀f,f∈F→f.ok n ρ
theorem Lin.kZ (l:Lin)(d:Int)(ρ:Rho):(l.up d).v ρ=l.v ρ+d:=by unfold Lin.up Lin.v;dsimp only;omega
theorem Lin.k_v {ρ:Rho}(h:ρ 0=0)(c:Int):(Lin.k c).v ρ=c:=by unfold Lin.k Lin.v;dsimp only;omega
def leI:Int→Int→Bool
 |.ofNat a,.ofNat b=>Nat.ble a b
 |.ofNat _,.negSucc _=>false
 |.negSucc _,.ofNat _=>true
 |.negSucc a,.negSucc b=>Nat.ble b a
theorem gB {a b:Int}:leI a b=true↔a≤b:=by
 cases a<;>cases b<;>simp only [leI,Nat.ble_eq,Int.ofNat_eq_natCast,Bool.false_eq_true,false_iff,true_iff]<;>omega
def zf4:List (Nat×Int)→Nat→Option Int
 |[],_=>none
 |(k,d)::r,n=>if Nat.beq k n then some d else zf4 r n
def zhS:List (Nat×Int)→Nat→Int→List (Nat×Int)
 |[],n,d=>[(n,d)]
 |(k,e)::r,n,d=>if Nat.beq k n then (if leI e d then (k,e)::r else (k,d)::r) else (k,e)::zhS r n d
def relax:List Fact→List (Nat×Int)→List (Nat×Int)
 |[],ds=>ds
 |f::F,ds=>match zf4 ds f.x with
  |some d=>relax F (zhS ds f.y (d+f.c))
  |none=>relax F ds
def rounds:Nat→List Fact→List (Nat×Int)→List (Nat×Int)
 |0,_,ds=>ds
 |k+1,F,ds=>rounds k F (relax F ds)
def leL (F:List Fact)(a b:Lin):Bool:=
 if Nat.beq a.s b.s&&leI a.c b.c then true
 else match F.filter (fun f=>Nat.beq f.x a.s) with
  |[]=>false
  |Fa=>match F.filter (fun f=>Nat.beq f.y b.s) with
   |[]=>false
   |Fb=>Fa.any fun f=>(Nat.beq f.y b.s&&leI (a.c+f.c) b.c)||
     Fb.any fun h=>(Nat.beq f.y h.x&&leI (a.c+f.c+h.c) b.c)||F.any fun g=>Nat.beq g.x f.y&&(Nat.beq g.y h.x&&leI (a.c+f.c+g.c+h.c) b.c)
def zbC (ρ:Rho)(a:Nat)(ds:List (Nat×Int)):Prop:=∀p,p∈ds→ρ a≤ρ p.1+p.2
theorem yj:∀{ds:List (Nat×Int)} {n:Nat} {d:Int},zf4 ds n=some d→(n,d)∈ds
 |(k,e)::r,n,d,h=>by
  unfold zf4 at h
  split at h
  ·rename_i hk
   obtain rfl:=Nat.eq_of_beq_eq_true hk
   cases h;exact List.mem_cons_self ..
  ·exact List.mem_cons_of_mem _ (yj h)
theorem WV {ρ:Rho}{a:Nat}:∀{ds:List (Nat×Int)} {n:Nat} {d:Int},zbC ρ a ds→ρ a≤ρ n+d→zbC ρ a (zhS ds n d)
 |[],n,d,_,h=>fun p hp=>by
  unfold zhS at hp
  rw [List.mem_singleton.1 hp];exact h
 |(k,e)::r,n,d,hd,h=>by
  unfold zhS
  split
  ·rename_i hk
   obtain rfl:=Nat.eq_of_beq_eq_true hk
   split
   ·exact hd
   ·intro p hp
    rcases List.mem_cons.1 hp with rfl|hp
    ·exact h
    ·exact hd p (List.mem_cons_of_mem _ hp)
  ·intro p hp
   rcases List.mem_cons.1 hp with rfl|hp
   ·exact hd _ (List.mem_cons_self ..)
   ·exact WV (fun q hq=>hd q (List.mem_cons_of_mem _ hq)) h p hp
theorem Es {ρ:Rho}{a n:Nat}:∀{F:List Fact} {ds:List (Nat×Int)},aW n ρ F→zbC ρ a ds→zbC ρ a (relax F ds)
 |[],_,_,hd=>hd
 |f::F,ds,hF,hd=>by
  have hF':aW n ρ F:=fun g hg=>hF g (List.mem_cons_of_mem _ hg)
  unfold relax
  split
  ·rename_i d hg
   have h1:=hd _ (yj hg)
   have h2:=(hF f (List.mem_cons_self ..)).2.2
   exact Es hF' (WV hd (by dsimp only at h1;omega))
  ·exact Es hF' hd
theorem yU {ρ:Rho}{a n:Nat}{F:List Fact}(hF:aW n ρ F):∀(k:Nat) {ds:List (Nat×Int)},zbC ρ a ds→zbC ρ a (rounds k F ds)
 |0,_,hd=>hd
 |k+1,_,hd=>by unfold rounds;exact yU hF k (Es hF hd)
theorem aQ {ρ:Rho}{n:Nat}{F:List Fact}(hF:aW n ρ F){a b:Lin}(h:leL F a b=true):a.v ρ≤b.v ρ:=by
 unfold leL at h
 unfold Lin.v
 split at h
 ·rename_i hc
  simp only [Bool.and_eq_true] at hc
  obtain ⟨h1,h2⟩:=hc
  rw [Nat.eq_of_beq_eq_true h1]
  have:=gB.1 h2
  omega
 ·split at h
  ·cases h
  ·split at h
   ·cases h
   ·obtain ⟨f,hf,h1⟩:=List.any_eq_true.1 h
    rw [List.mem_filter] at hf
    have f1:=(hF f hf.1).2.2
    rw [Nat.eq_of_beq_eq_true hf.2] at f1
    rw [Bool.or_eq_true] at h1
    rcases h1 with h1|h1
    ·rw [Bool.and_eq_true] at h1
     rw [Nat.eq_of_beq_eq_true h1.1] at f1
     have:=gB.1 h1.2
     omega
    ·obtain ⟨g,hg,h2⟩:=List.any_eq_true.1 h1
     rw [List.mem_filter] at hg
     have g1:=(hF g hg.1).2.2
     rw [Nat.eq_of_beq_eq_true hg.2] at g1
     rw [Bool.or_eq_true] at h2
     rcases h2 with h2|h2
     ·rw [Bool.and_eq_true] at h2
      rw [Nat.eq_of_beq_eq_true h2.1] at f1
      have:=gB.1 h2.2
      omega
     ·obtain ⟨k,hk,h3⟩:=List.any_eq_true.1 h2
      simp only [Bool.and_eq_true] at h3
      have k1:=(hF k hk).2.2
      rw [Nat.eq_of_beq_eq_true h3.1,Nat.eq_of_beq_eq_true h3.2.1] at k1
      have:=gB.1 h3.2.2
      omega
def eqL (F:List Fact)(a b:Lin):Bool:=leL F a b&&leL F b a
theorem I8 {ρ:Rho}{n:Nat}{F:List Fact}(hF:aW n ρ F){a b:Lin}(h:eqL F a b=true):a.v ρ=b.v ρ:=by
 unfold eqL at h
 rw [Bool.and_eq_true] at h
 have h1:=aQ hF h.1
 have h2:=aQ hF h.2
 omega
def ak (a b:Lin):Fact:=⟨a.s,b.s,b.c-a.c⟩
theorem aC {n:Nat}{ρ:Rho}{a b:Lin}:(ak a b).ok n ρ↔a.s<n∧b.s<n∧a.v ρ≤b.v ρ:=by
 unfold Fact.ok ak Lin.v
 dsimp only
 constructor
 ·rintro ⟨h1,h2,h3⟩;exact ⟨h1,h2,by omega⟩
 ·rintro ⟨h1,h2,h3⟩;exact ⟨h1,h2,by omega⟩
inductive ET where
 |i (k:IntKind) (lo hi:Option Int)
 |b
 |s (lo hi:Nat)
 |sl (sz k lo hi:Nat)
 |z
 |rE
 deriving Inhabited
abbrev Tab:=Nat→List (List ET)
def Nc (P:Nat→List X→Prop):ET→X→Prop
 |.i k lo hi,.v (.int k' z)=>k'=k∧(∀a,lo=some a→a≤z)∧(∀b,hi=some b→z≤b)
 |.b,.v (.bool _)=>True
 |.s lo hi,.v (.string bs)=>lo≤bs.size∧bs.size≤hi
 |.sl sz k lo hi,.sl _ sz' es=>sz'=sz∧lo≤es.length∧es.length≤hi∧∀e,e∈es→P k e
 |.z,.v .nilFunc=>True
 |.rE,x=>x=.ifc∨x=.v .nilIface
 |_,_=>False
def ETs (P:Nat→List X→Prop):List ET→List X→Prop
 |[],[]=>True
 |t::ts,x::xs=>Nc P t x∧ETs P ts xs
 |_,_=>False
def DN (T:Tab):Nat→Nat→List X→Prop
 |0,_,_=>False
 |h+1,k,cs=>∃alt,alt∈T k∧ETs (DN T h) alt cs
def D (T:Tab)(h:Int)(k:Nat)(cs:List X):Prop:=DN T h.toNat k cs
theorem XA {P Q:Nat→List X→Prop}(h:∀k e,P k e→Q k e){t:ET}{x:X}(hx:Nc P t x):Nc Q t x:=by
 unfold Nc at hx ⊢
 split at hx<;>first
  |exact hx
  |(obtain ⟨h1,h2,h3,h4⟩:=hx;exact ⟨h1,h2,h3,fun e he=>h _ e (h4 e he)⟩)
theorem Pv {P Q:Nat→List X→Prop}(h:∀k e,P k e→Q k e):∀{ts:List ET} {xs:List X},ETs P ts xs→ETs Q ts xs
 |[],[],_=>trivial
 |_::_,_::_,hx=>⟨XA h hx.1,Pv h hx.2⟩
theorem XC {T:Tab}:∀{h k:Nat} {cs:List X},DN T h k cs→DN T (h+1) k cs
 |0,_,_,hd=>hd.elim
 |_+1,_,_,⟨alt,ha,hs⟩=>⟨alt,ha,Pv (fun _ _ hd=>XC hd) hs⟩
theorem zfK {T:Tab}{h h' k:Nat}{cs:List X}(hh:h≤h')(hd:DN T h k cs):DN T h' k cs:=by
 induction hh with
 |refl=>exact hd
 |step _ ih=>exact XC ih
theorem kQ {T:Tab}{h h':Int}{k:Nat}{cs:List X}(hh:h≤h')(hd:D T h k cs):D T h' k cs:=zfK (by omega) hd
theorem qG {T:Tab}{h:Int}{k:Nat}{cs:List X}(hd:D T h k cs):1≤h∧∃alt,alt∈T k∧ETs (D T (h-1)) alt cs:=by
 unfold D at hd
 cases hn:h.toNat with
 |zero=>rw [hn] at hd;exact hd.elim
 |succ m=>
  rw [hn] at hd
  obtain ⟨alt,ha,hs⟩:=hd
  have:m=(h-1).toNat:=by omega
  subst this
  exact ⟨by omega,alt,ha,hs⟩
theorem dY {T:Tab}{h:Int}{k:Nat}{cs:List X}{alt:List ET}(hh:1≤h)(ha:alt∈T k)(hs:ETs (D T (h-1)) alt cs):D T h k cs:=by
 unfold D
 obtain ⟨m,hm⟩:∃m,h.toNat=m+1:=⟨h.toNat-1,by omega⟩
 rw [hm]
 have:m=(h-1).toNat:=by omega
 subst this
 exact ⟨alt,ha,hs⟩
theorem Xz {P:Nat→List X→Prop}{t:ET}{x:X}(hx:Nc P t x):x.refs=[]:=by
 unfold Nc at hx
 split at hx<;>first
  |rfl
  |(rcases hx with rfl|rfl<;>rfl)
  |exact hx.elim
theorem Pq {P:Nat→List X→Prop}:∀{ts:List ET} {xs:List X},ETs P ts xs→bM xs=[]
 |[],[],_=>rfl
 |t::ts,x::xs,h=>by
  show x.refs++bM xs=[]
  rw [Xz h.1,Pq h.2];rfl
theorem nX {T:Tab}{h:Int}{k:Nat}{cs:List X}(hd:D T h k cs):bM cs=[]:=by
 obtain ⟨_,_,_,hs⟩:=qG hd
 exact Pq hs
inductive AX where
 |i (k:IntKind) (l:Lin)
 |b (tf ff:List Fact)
 |s (l:Lin)
 |x (x:X)
 |sl (t:Option Bool) (sz k:Nat) (h n:Lin)
 |bs (i:Nat) (o n:Lin)
 |ptr (i:Nat) (e:Lin) (o:Nat)
 |dp (cs:List AX)
 |fn (f:FuncId) (cs:List AX)
 |agg (cs:List AX)
 |tup (cs:List AX)
 |yl (i:Nat)
 |mp (i:Nat)
 |rE
 |el (k:Nat) (h:Lin)
 |de (k:Nat) (h:Lin)
 deriving Inhabited
def zX:Option Bool→Bool→Prop
 |none,_=>True
 |some b,c=>c=b
mutual
inductive G (T:Tab) (n:Nat) (ρ:Rho):AX→X→Prop where
 |i {k:IntKind} {l:Lin} {z:Int}:l.s<n→z=l.v ρ→G T n ρ (.i k l) (.v (.int k z))
 |b {tf ff:List Fact} {t:Bool}:(t=true→aW n ρ tf)→(t=false→aW n ρ ff)→G T n ρ (.b tf ff) (.v (.bool t))
 |s {l:Lin} {bs:ByteArray}:l.s<n→(bs.size:Int)=l.v ρ→G T n ρ (.s l) (.v (.string bs))
 |x {x:X}:x.refs=[]→G T n ρ (.x x) x
 |sl {t:Option Bool} {sz k:Nat} {h l:Lin} {tt:Bool} {es:List (List X)}:h.s<n→l.s<n→zX t tt→(es.length:Int)=l.v ρ→(∀e,e∈es→D T (h.v ρ) k e)→G T n ρ (.sl t sz k h l) (.sl tt sz es)
 |bs {i:Nat} {o l:Lin} {o' l':Nat}:o.s<n→l.s<n→(o':Int)=o.v ρ→(l':Int)=l.v ρ→G T n ρ (.bs i o l) (.bs i o' l')
 |ptr {i:Nat} {e:Lin} {o e':Nat}:e.s<n→(e':Int)=e.v ρ→G T n ρ (.ptr i e o) (.ptr i e' o)
 |dp {cs:List AX} {xs:List X}:GL T n ρ cs xs→G T n ρ (.dp cs) (.dp xs)
 |fn {f:FuncId} {cs:List AX} {xs:List X}:GL T n ρ cs xs→G T n ρ (.fn f cs) (.fn f xs)
 |agg {cs:List AX} {xs:List X}:GL T n ρ cs xs→G T n ρ (.agg cs) (.agg xs)
 |tup {cs:List AX} {xs:List X}:GL T n ρ cs xs→G T n ρ (.tup cs) (.tup xs)
 |yl {i:Nat}:G T n ρ (.yl i) (.yl i)
 |mp {i:Nat}:G T n ρ (.mp i) (.mp i)
 |ifc:G T n ρ .rE .ifc
 |CX:G T n ρ .rE (.v .nilIface)
 |el {k:Nat} {h:Lin} {xs:List X}:h.s<n→D T (h.v ρ) k xs→G T n ρ (.el k h) (.agg xs)
 |de {k:Nat} {h:Lin} {xs:List X}:h.s<n→D T (h.v ρ) k xs→G T n ρ (.de k h) (.dp xs)
inductive GL (T:Tab) (n:Nat) (ρ:Rho):List AX→List X→Prop where
 |nil:GL T n ρ [] []
 |cons {a:AX} {x:X} {l:List AX} {m:List X}:G T n ρ a x→GL T n ρ l m→GL T n ρ (a::l) (x::m)
end
structure More (n:Nat) (ρ:Rho) (n':Nat) (ρ':Rho):Prop where
 le:n≤n'
 same:∀s,s<n→ρ' s=ρ s
theorem More.refl (n:Nat)(ρ:Rho):More n ρ n ρ:=⟨Nat.le_refl _,fun _ _=>rfl⟩
theorem More.trans {n n' n'':Nat}{ρ ρ' zme:Rho}(h:More n ρ n' ρ')(h':More n' ρ' n'' zme):More n ρ n'' zme:=
 ⟨Nat.le_trans h.le h'.le,fun s hs=>by rw [h'.same s (Nat.lt_of_lt_of_le hs h.le),h.same s hs]⟩
theorem More.lin {n n':Nat}{ρ ρ':Rho}(h:More n ρ n' ρ'){l:Lin}(hl:l.s<n):l.v ρ'=l.v ρ:=by unfold Lin.v;rw [h.same _ hl]
theorem More.lt {n n':Nat}{ρ ρ':Rho}(h:More n ρ n' ρ'){s:Nat}(hs:s<n):s<n':=Nat.lt_of_lt_of_le hs h.le
theorem More.fact {n n':Nat}{ρ ρ':Rho}(h:More n ρ n' ρ'){f:Fact}(hf:f.ok n ρ):f.ok n' ρ':=
 ⟨h.lt hf.1,h.lt hf.2.1,by rw [h.same _ hf.1,h.same _ hf.2.1];exact hf.2.2⟩
theorem More.facts {n n':Nat}{ρ ρ':Rho}(h:More n ρ n' ρ'){F:List Fact}(hf:aW n ρ F):aW n' ρ' F:=fun f hm=>h.fact (hf f hm)
mutual
theorem G.more {T:Tab}{n n':Nat}{ρ ρ':Rho}(h:More n ρ n' ρ'):∀{a:AX} {x:X},G T n ρ a x→G T n' ρ' a x
 |_,_,.i h1 h2=>.i (h.lt h1) (by rw [h.lin h1];exact h2)
 |_,_,.b h1 h2=>.b (fun e=>h.facts (h1 e)) (fun e=>h.facts (h2 e))
 |_,_,.s h1 h2=>.s (h.lt h1) (by rw [h.lin h1];exact h2)
 |_,_,.x h1=>.x h1
 |_,_,.sl h1 h2 h3 h4 h5=>.sl (h.lt h1) (h.lt h2) h3 (by rw [h.lin h2];exact h4) (by rw [h.lin h1];exact h5)
 |_,_,.bs h1 h2 h3 h4=>.bs (h.lt h1) (h.lt h2) (by rw [h.lin h1];exact h3) (by rw [h.lin h2];exact h4)
 |_,_,.ptr h1 h2=>.ptr (h.lt h1) (by rw [h.lin h1];exact h2)
 |_,_,.dp h1=>.dp (GL.more h h1)
 |_,_,.fn h1=>.fn (GL.more h h1)
 |_,_,.agg h1=>.agg (GL.more h h1)
 |_,_,.tup h1=>.tup (GL.more h h1)
 |_,_,.yl=>.yl
 |_,_,.mp=>.mp
 |_,_,.ifc=>.ifc
 |_,_,.CX=>.CX
 |_,_,.el h1 h2=>.el (h.lt h1) (by rw [h.lin h1];exact h2)
 |_,_,.de h1 h2=>.de (h.lt h1) (by rw [h.lin h1];exact h2)
theorem GL.more {T:Tab}{n n':Nat}{ρ ρ':Rho}(h:More n ρ n' ρ'):∀{a:List AX} {x:List X},GL T n ρ a x→GL T n' ρ' a x
 |_,_,.nil=>.nil
 |_,_,.cons h1 h2=>.cons (G.more h h1) (GL.more h h2)
end
inductive ABx where
 |var (cs:List AX)
 |row (sz k:Nat) (h n:Lin)
 |loop (st:LoopState) (pend:Option Ex) (tm:List (Nat×AX)) (ps:List Nat) (assign body:C)
 |map (es:List (Value×AX))
 |dead
 |el (k:Nat) (h:Lin)
 deriving Inhabited
inductive GT (T:Tab) (n:Nat) (ρ:Rho):List (Nat×AX)→List (Nat×X)→Prop where
 |nil:GT T n ρ [] []
 |cons {k:Nat} {a:AX} {x:X} {l:List (Nat×AX)} {m:List (Nat×X)}:G T n ρ a x→GT T n ρ l m→GT T n ρ ((k,a)::l) ((k,x)::m)
inductive GM (T:Tab) (n:Nat) (ρ:Rho):List (Value×AX)→List (Value×X)→Prop where
 |nil:GM T n ρ [] []
 |cons {k:Value} {a:AX} {x:X} {l:List (Value×AX)} {m:List (Value×X)}:G T n ρ a x→GM T n ρ l m→GM T n ρ ((k,a)::l) ((k,x)::m)
inductive GB (T:Tab) (n:Nat) (ρ:Rho):ABx→Bx→Prop where
 |var {cs:List AX} {xs:List X}:GL T n ρ cs xs→GB T n ρ (.var cs) (.var xs)
 |row {sz k:Nat} {h l:Lin} {es:List (List X)}:h.s<n→l.s<n→(es.length:Int)=l.v ρ→(∀e,e∈es→D T (h.v ρ) k e)→GB T n ρ (.row sz k h l) (.row sz es)
 |loop {st:LoopState} {pend:Option Ex} {tm:List (Nat×AX)} {tm':List (Nat×X)} {ps:List Nat} {a b:C}:GT T n ρ tm tm'→GB T n ρ (.loop st pend tm ps a b) (.loop st pend tm' ps a b)
 |map {es:List (Value×AX)} {es':List (Value×X)}:GM T n ρ es es'→GB T n ρ (.map es) (.map es')
 |dead:GB T n ρ .dead .dead
 |el {k:Nat} {h:Lin} {xs:List X}:h.s<n→D T (h.v ρ) k xs→GB T n ρ (.el k h) (.var xs)
inductive GBs (T:Tab) (n:Nat) (ρ:Rho):List ABx→List Bx→Prop where
 |nil:GBs T n ρ [] []
 |cons {a:ABx} {x:Bx} {l:List ABx} {m:List Bx}:GB T n ρ a x→GBs T n ρ l m→GBs T n ρ (a::l) (x::m)
structure ASt where
 nx:Nat
 F:List Fact
 tm:List (Nat×AX)
 bx:List ABx
 deriving Inhabited
structure R (T:Tab) (ρ:Rho) (a:ASt) (σ:St):Prop where
 zero:ρ 0=0
 pos:0<a.nx
 F:aW a.nx ρ a.F
 tm:GT T a.nx ρ a.tm σ.tm
 bx:GBs T a.nx ρ a.bx σ.bx
theorem GT.more {T:Tab}{n n':Nat}{ρ ρ':Rho}(h:More n ρ n' ρ'):∀{a:List (Nat×AX)} {x:List (Nat×X)},GT T n ρ a x→GT T n' ρ' a x
 |_,_,.nil=>.nil
 |_,_,.cons h1 h2=>.cons (h1.more h) (h2.more h)
theorem GM.more {T:Tab}{n n':Nat}{ρ ρ':Rho}(h:More n ρ n' ρ'):∀{a:List (Value×AX)} {x:List (Value×X)},GM T n ρ a x→GM T n' ρ' a x
 |_,_,.nil=>.nil
 |_,_,.cons h1 h2=>.cons (h1.more h) (h2.more h)
theorem GB.more {T:Tab}{n n':Nat}{ρ ρ':Rho}(h:More n ρ n' ρ'):∀{a:ABx} {x:Bx},GB T n ρ a x→GB T n' ρ' a x
 |_,_,.var h1=>.var (h1.more h)
 |_,_,.row h1 h2 h3 h4=>.row (h.lt h1) (h.lt h2) (by rw [h.lin h2];exact h3) (by rw [h.lin h1];exact h4)
 |_,_,.loop h1=>.loop (h1.more h)
 |_,_,.map h1=>.map (h1.more h)
 |_,_,.dead=>.dead
 |_,_,.el h1 h2=>.el (h.lt h1) (by rw [h.lin h1];exact h2)
theorem GBs.more {T:Tab}{n n':Nat}{ρ ρ':Rho}(h:More n ρ n' ρ'):∀{a:List ABx} {x:List Bx},GBs T n ρ a x→GBs T n' ρ' a x
 |_,_,.nil=>.nil
 |_,_,.cons h1 h2=>.cons (h1.more h) (h2.more h)
end Go.Ab
namespace Go.Ab
open Go.Em
variable {T:Tab} {n:Nat} {ρ:Rho}
theorem GL.len:∀{l:List AX} {m:List X},GL T n ρ l m→l.length=m.length
 |_,_,.nil=>rfl
 |_,_,.cons _ h=>by rw [List.length_cons,List.length_cons,h.len]
theorem GL.get {l:List AX}{m:List X}(h:GL T n ρ l m):∀{i:Nat} {a:AX},l[i]?=some a→∃x,m[i]?=some x∧G T n ρ a x:=by
 induction h using GL.rec (motive_1:=fun _ _ _=>True) with
 |nil=>intro i a e;simp at e
 |cons h1 h2 _ ih=>
  intro i a e
  cases i with
  |zero=>simp at e;subst e;exact ⟨_,rfl,h1⟩
  |succ i=>simpa using ih (by simpa using e)
 |_=>trivial
theorem GL.drop:∀{l:List AX} {m:List X} (k:Nat),GL T n ρ l m→GL T n ρ (l.drop k) (m.drop k)
 |_,_,0,h=>h
 |_,_,_+1,.nil=>.nil
 |_,_,k+1,.cons _ h=>h.drop k
theorem GL.take:∀{l:List AX} {m:List X} (k:Nat),GL T n ρ l m→GL T n ρ (l.take k) (m.take k)
 |_,_,0,_=>.nil
 |_,_,_+1,.nil=>.nil
 |_,_,k+1,.cons h1 h=>.cons h1 (h.take k)
theorem GL.append:∀{l l':List AX} {m m':List X},GL T n ρ l m→GL T n ρ l' m'→GL T n ρ (l++l') (m++m')
 |_,_,_,_,.nil,h=>h
 |_,_,_,_,.cons h1 h,h'=>.cons h1 (h.append h')
theorem GL.one {a:AX}{x:X}(h:G T n ρ a x):GL T n ρ [a] [x]:=.cons h .nil
mutual
def AX.refs:AX→List Nat
 |.bs i _ _|.ptr i _ _|.yl i|.mp i=>[i]
 |.fn _ cs=>oq cs
 |.agg cs=>oq cs
 |.tup cs=>oq cs
 |.i _ _|.b _ _|.s _|.x _|.sl _ _ _ _ _|.dp _|.rE|.el _ _|.de _ _=>[]
def oq:List AX→List Nat
 |[]=>[]
 |x::r=>x.refs++oq r
end
mutual
theorem G.refs:∀{a:AX} {x:X},G T n ρ a x→x.refs=a.refs
 |_,_,.i _ _=>rfl
 |_,_,.b _ _=>rfl
 |_,_,.s _ _=>rfl
 |_,_,.x h=>h
 |_,_,.sl _ _ _ _ _=>rfl
 |_,_,.bs _ _ _ _=>rfl
 |_,_,.ptr _ _=>rfl
 |_,_,.dp _=>rfl
 |_,_,.fn h=>h.refs
 |_,_,.agg h=>h.refs
 |_,_,.tup h=>h.refs
 |_,_,.yl=>rfl
 |_,_,.mp=>rfl
 |_,_,.ifc=>rfl
 |_,_,.CX=>rfl
 |_,_,.el _ h=>nX h
 |_,_,.de _ _=>rfl
theorem GL.refs:∀{a:List AX} {x:List X},GL T n ρ a x→bM x=oq a
 |_,_,.nil=>rfl
 |_,_,.cons h1 h2=>by show X.refs _++bM _=AX.refs _++oq _;rw [h1.refs,h2.refs]
end
mutual
def AX.ren (f:Nat→Nat):AX→AX
 |.bs i a b=>.bs (f i) a b
 |.ptr i a b=>.ptr (f i) a b
 |.yl i=>.yl (f i)
 |.mp i=>.mp (f i)
 |.fn g cs=>.fn g (zcz f cs)
 |.agg cs=>.agg (zcz f cs)
 |.tup cs=>.tup (zcz f cs)
 |.i k l=>.i k l
 |.b t u=>.b t u
 |.s l=>.s l
 |.x x=>.x x
 |.sl t sz k h l=>.sl t sz k h l
 |.dp cs=>.dp cs
 |.rE=>.rE
 |.el k h=>.el k h
 |.de k h=>.de k h
def zcz (f:Nat→Nat):List AX→List AX
 |[]=>[]
 |x::r=>x.ren f::zcz f r
end
mutual
theorem G.ren (f:Nat→Nat):∀{a:AX} {x:X},G T n ρ a x→G T n ρ (a.ren f) (x.ren f)
 |_,_,.i h1 h2=>.i h1 h2
 |_,_,.b h1 h2=>.b h1 h2
 |_,_,.s h1 h2=>.s h1 h2
 |.x _,x,.x h=>by show G T n ρ (.x x) (x.ren f);rw [Ep f x h];exact .x h
 |_,_,.sl h1 h2 h3 h4 h5=>.sl h1 h2 h3 h4 h5
 |_,_,.bs h1 h2 h3 h4=>.bs h1 h2 h3 h4
 |_,_,.ptr h1 h2=>.ptr h1 h2
 |_,_,.dp h=>.dp h
 |_,_,.fn h=>.fn (h.ren f)
 |_,_,.agg h=>.agg (h.ren f)
 |_,_,.tup h=>.tup (h.ren f)
 |_,_,.yl=>.yl
 |_,_,.mp=>.mp
 |_,_,.ifc=>.ifc
 |_,_,.CX=>.CX
 |_,_,.el (xs:=xs) h1 h2=>by rw [show X.ren f (.agg xs)=.agg xs from Ep f (.agg xs) (nX h2)];exact .el h1 h2
 |_,_,.de h1 h2=>.de h1 h2
theorem GL.ren (f:Nat→Nat):∀{a:List AX} {x:List X},GL T n ρ a x→GL T n ρ (zcz f a) (Jw f x)
 |_,_,.nil=>.nil
 |_,_,.cons h1 h2=>.cons (h1.ren f) (h2.ren f)
end
def zcy (f:Nat→Nat)(tm:List (Nat×AX)):List (Nat×AX):=tm.map fun p=>(p.1,p.2.ren f)
theorem GT.ren (f:Nat→Nat):∀{a:List (Nat×AX)} {x:List (Nat×X)},GT T n ρ a x→GT T n ρ (zcy f a) (za9 f x)
 |_,_,.nil=>.nil
 |_,_,.cons h1 h2=>.cons (h1.ren f) (h2.ren f)
theorem GT.vals:∀{a:List (Nat×AX)} {x:List (Nat×X)},GT T n ρ a x→GL T n ρ (a.map (·.2)) (x.map (·.2))
 |_,_,.nil=>.nil
 |_,_,.cons h1 h2=>.cons h1 h2.vals
def ABx.refs:ABx→List Nat
 |.var cs=>oq cs
 |.loop _ _ tm _ _ _=>oq (tm.map (·.2))
 |.row _ _ _ _|.map _|.dead|.el _ _=>[]
def ABx.ren (f:Nat→Nat):ABx→ABx
 |.var cs=>.var (zcz f cs)
 |.loop st p tm ps a b=>.loop st p (zcy f tm) ps a b
 |.row s k h l=>.row s k h l
 |.map es=>.map es
 |.dead=>.dead
 |.el k h=>.el k h
theorem GB.refs:∀{a:ABx} {x:Bx},GB T n ρ a x→x.refs=a.refs
 |_,_,.var h=>h.refs
 |_,_,.row _ _ _ _=>rfl
 |_,_,.loop h=>h.vals.refs
 |_,_,.map _=>rfl
 |_,_,.dead=>rfl
 |_,_,.el _ h=>nX h
theorem GB.ren (f:Nat→Nat):∀{a:ABx} {x:Bx},GB T n ρ a x→GB T n ρ (a.ren f) (x.ren f)
 |_,_,.var h=>.var (h.ren f)
 |_,_,.row h1 h2 h3 h4=>.row h1 h2 h3 h4
 |_,_,.loop h=>.loop (h.ren f)
 |_,_,.map h=>.map h
 |_,_,.dead=>.dead
 |_,_,.el (xs:=xs) h1 h2=>by rw [show Bx.ren f (.var xs)=.var xs from by show Bx.var (Jw f xs)=_;rw [mg f xs (nX h2)]];exact .el h1 h2
theorem GBs.len:∀{l:List ABx} {m:List Bx},GBs T n ρ l m→l.length=m.length
 |_,_,.nil=>rfl
 |_,_,.cons _ h=>by rw [List.length_cons,List.length_cons,h.len]
theorem GBs.get:∀{l:List ABx} {m:List Bx} {i:Nat} {a:ABx},GBs T n ρ l m→l[i]?=some a→∃x,m[i]?=some x∧GB T n ρ a x
 |_,_,i,_,.nil,e=>by simp at e
 |_,_,0,_,.cons h1 _,e=>by simp at e;subst e;exact ⟨_,rfl,h1⟩
 |_,_,_+1,_,.cons _ h,e=>by simpa using h.get (by simpa using e)
theorem GBs.none:∀{l:List ABx} {m:List Bx} {i:Nat},GBs T n ρ l m→l[i]?=none→m[i]?=none:=by
 intro l m i h e
 rw [List.getElem?_eq_none_iff] at e ⊢
 rw [←h.len];exact e
theorem GBs.set:∀{l:List ABx} {m:List Bx} {a:ABx} {x:Bx} (i:Nat),GBs T n ρ l m→GB T n ρ a x→GBs T n ρ (l.set i a) (m.set i x)
 |_,_,_,_,_,.nil,_=>.nil
 |_,_,_,_,0,.cons _ h,h'=>.cons h' h
 |_,_,_,_,i+1,.cons h1 h,h'=>.cons h1 (h.set i h')
theorem GBs.append:∀{l l':List ABx} {m m':List Bx},GBs T n ρ l m→GBs T n ρ l' m'→GBs T n ρ (l++l') (m++m')
 |_,_,_,_,.nil,h=>h
 |_,_,_,_,.cons h1 h,h'=>.cons h1 (h.append h')
theorem GBs.snoc {l:List ABx}{m:List Bx}{a:ABx}{x:Bx}(h:GBs T n ρ l m)(h':GB T n ρ a x):GBs T n ρ (l++[a]) (m++[x]):=h.append (.cons h' .nil)
theorem GBs.drop:∀{l:List ABx} {m:List Bx} (k:Nat),GBs T n ρ l m→GBs T n ρ (l.drop k) (m.drop k)
 |_,_,0,h=>h
 |_,_,_+1,.nil=>.nil
 |_,_,k+1,.cons _ h=>h.drop k
theorem GBs.ren (f:Nat→Nat):∀{l:List ABx} {m:List Bx},GBs T n ρ l m→GBs T n ρ (l.map (ABx.ren f)) (m.map (Bx.ren f))
 |_,_,.nil=>.nil
 |_,_,.cons h1 h=>.cons (h1.ren f) (h.ren f)
def qJ (bx:List ABx):Nat→List Nat→List Nat→List Nat
 |0,_,seen=>seen
 |_+1,[],seen=>seen
 |m+1,i::todo,seen=>
  if ou i seen then qJ bx m todo seen
  else match bx[i]? with
   |none=>qJ bx m todo seen
   |some b=>qJ bx m (todo++b.refs) (seen++[i])
theorem mD {l:List ABx}{m:List Bx}(h:GBs T n ρ l m):∀(f:Nat) (todo seen:List Nat),reach m f todo seen=qJ l f todo seen
 |0,_,_=>rfl
 |_+1,[],_=>rfl
 |f+1,i::todo,seen=>by
  unfold reach qJ
  split
  ·exact mD h f todo seen
  ·cases hl:l[i]? with
   |none=>rw [h.none hl];exact mD h f todo seen
   |some a=>
    obtain ⟨x,hx,hg⟩:=h.get hl
    rw [hx]
    dsimp only
    rw [hg.refs]
    exact mD h f _ _
def IV (bx:List ABx):List Nat→Option (List ABx)
 |[]=>some []
 |i::r=>match bx[i]? with
  |none=>none
  |some b=>(IV bx r).map (b::·)
theorem IU {l:List ABx}{m:List Bx}(h:GBs T n ρ l m):∀{s:List Nat} {p:List ABx},IV l s=some p→∃q,LJ m s=some q∧GBs T n ρ p q
 |[],p,e=>by simp only [IV,Option.some.injEq] at e;subst e;exact ⟨[],rfl,.nil⟩
 |i::r,p,e=>by
  unfold IV at e
  split at e
  ·cases e
  ·rename_i b hb
   obtain ⟨p',hp,rfl⟩:=Option.map_eq_some_iff.1 e
   obtain ⟨x,hx,hg⟩:=h.get hb
   obtain ⟨q,hq,hgq⟩:=IU h hp
   exact ⟨x::q,by unfold LJ;rw [hx];simp only [hq,Option.map_some],.cons hg hgq⟩
def HY (bx:List ABx)(sel:List Nat):Option (List ABx):=
 match IV bx sel with
 |none=>none
 |some l=>if CU sel&&l.all (fun b=>JE b.refs sel) then some (l.map (ABx.ren (qE · sel))) else none
theorem Pn:∀{p:List ABx} {q:List Bx} {sel:List Nat},GBs T n ρ p q→q.all (fun b=>JE b.refs sel)=p.all (fun b=>JE b.refs sel)
 |_,_,_,.nil=>rfl
 |_,_,_,.cons h1 h=>by rw [List.all_cons,List.all_cons,h1.refs,Pn h]
theorem yZ {l:List ABx}{m:List Bx}(h:GBs T n ρ l m){s:List Nat}{p:List ABx}(e:HY l s=some p):∃q,AY m s=some q∧GBs T n ρ p q:=by
 unfold HY at e
 split at e
 ·cases e
 ·rename_i l' hl
  obtain ⟨q,hq,hg⟩:=IU h hl
  split at e
  ·rename_i hc
   cases e
   refine ⟨q.map (Bx.ren (qE · s)),?_,hg.ren _⟩
   unfold AY
   rw [hq]
   dsimp only
   rw [Pn hg,if_pos hc]
  ·cases e
def O7 (nIn:Nat)(a:ASt):Option ASt:=
 let sel:=qJ a.bx gG (List.range nIn++oq (a.tm.map (·.2))) []
 if JE (oq (a.tm.map (·.2))) sel&&sel.take nIn==List.range nIn then
  (HY a.bx sel).map fun bx=>⟨a.nx,a.F,zcy (qE · sel) a.tm,bx⟩
 else none
theorem Au {a a':ASt}{σ:St}(h:R T ρ a σ){nIn:Nat}(e:O7 nIn a=some a'):∃σ',canon nIn σ=some σ'∧R T ρ a' σ'∧a'.nx=a.nx:=by
 unfold O7 at e
 dsimp only at e
 split at e
 ·rename_i hc
  obtain ⟨p,hp,rfl⟩:=Option.map_eq_some_iff.1 e
  obtain ⟨q,hq,hg⟩:=yZ h.bx hp
  have e1:=h.tm.vals.refs
  refine ⟨⟨za9 (qE · (qJ a.bx gG (List.range nIn++oq (a.tm.map (·.2))) [])) σ.tm,q⟩,?_,⟨h.zero,h.pos,h.F,h.tm.ren _,hg⟩,rfl⟩
  unfold canon
  dsimp only
  rw [e1,mD h.bx,if_pos hc,hq]
  rfl
 ·cases e
end Go.Ab
namespace Go.Ab
open Go.Em
variable {T:Tab} {n:Nat} {ρ:Rho}
def upd (ρ:Rho)(n:Nat)(z:Int):Rho:=fun s=>if s=n then z else ρ s
theorem zgb (ρ:Rho)(n:Nat)(z:Int):upd ρ n z n=z:=if_pos rfl
theorem Gt {ρ:Rho}{n s:Nat}{z:Int}(h:s<n):upd ρ n z s=ρ s:=if_neg (by omega)
theorem eX (ρ:Rho)(n:Nat)(z:Int):More n ρ (n+1) (upd ρ n z):=⟨by omega,fun _ hs=>Gt hs⟩
theorem R.more {a:ASt}{σ:St}(h:R T ρ a σ){n':Nat}{ρ':Rho}(hm:More a.nx ρ n' ρ'):R T ρ' {a with nx:=n'} σ:=
 ⟨by rw [hm.same 0 h.pos];exact h.zero,Nat.lt_of_lt_of_le h.pos hm.le,hm.facts h.F,h.tm.more hm,h.bx.more hm⟩
theorem R.zph {a:ASt}{σ:St}(h:R T ρ a σ){F:List Fact}(hF:aW a.nx ρ F):R T ρ {a with F:=F++a.F} σ:=
 ⟨h.zero,h.pos,fun f hf=>(List.mem_append.1 hf).elim (hF f) (h.F f),h.tm,h.bx⟩
theorem aW.nil {n:Nat}{ρ:Rho}:aW n ρ []:=fun f h=>by cases h
theorem aW.cons {n:Nat}{ρ:Rho}{f:Fact}{F:List Fact}(h:f.ok n ρ)(hF:aW n ρ F):aW n ρ (f::F):=fun g hg=>by
 rcases List.mem_cons.1 hg with rfl|hg
 ·exact h
 ·exact hF g hg
theorem aW.append {n:Nat}{ρ:Rho}{F F':List Fact}(h:aW n ρ F)(h':aW n ρ F'):aW n ρ (F++F'):=fun g hg=>(List.mem_append.1 hg).elim (h g) (h' g)
def bnd (l:Lin)(lo hi:Option Int):List Fact:=
 (match lo with|some a=>[ak (.k a) l]|none=>[])++(match hi with|some b=>[ak l (.k b)]|none=>[])
theorem uD {l:Lin}{lo hi:Option Int}(h0:ρ 0=0)(hn:0<n)(hl:l.s<n)(h1:∀a,lo=some a→a≤l.v ρ)(h2:∀b,hi=some b→l.v ρ≤b):aW n ρ (bnd l lo hi):=by
 unfold bnd
 refine aW.append ?_ ?_
 ·split
  ·rename_i a
   exact aW.cons (aC.2 ⟨hn,hl,by rw [Lin.k_v h0];exact h1 a rfl⟩) .nil
  ·exact .nil
 ·split
  ·rename_i b
   exact aW.cons (aC.2 ⟨hl,hn,by rw [Lin.k_v h0];exact h2 b rfl⟩) .nil
  ·exact .nil
def bot:Fact:=⟨0,0,-1⟩
def cb (t:Bool):AX:=if t then .b [] [bot] else .b [bot] []
theorem xM (t:Bool):G T n ρ (cb t) (.v (.bool t)):=by
 cases t
 ·exact .b (fun h=>by cases h) (fun _=>.nil)
 ·exact .b (fun _=>.nil) (fun h=>by cases h)
mutual
def ofX:X→AX
 |.v (.int k z)=>.i k (.k z)
 |.v (.bool b)=>cb b
 |.fn f cs=>.fn f (Y2 cs)
 |.agg cs=>.agg (Y2 cs)
 |.tup cs=>.tup (Y2 cs)
 |.dp cs=>.dp (Y2 cs)
 |x=>.x x
def Y2:List X→List AX
 |[]=>[]
 |x::r=>ofX x::Y2 r
end
mutual
def X.bare:X→Bool
 |.bs _ _ _|.ptr _ _ _|.yl _|.mp _=>false
 |.fn _ cs=>BA cs
 |.agg cs=>BA cs
 |.tup cs=>BA cs
 |.dp cs=>BA cs
 |.v _|.sl _ _ _|.ifc=>true
def BA:List X→Bool
 |[]=>true
 |x::r=>X.bare x&&BA r
end
mutual
theorem Ve (h0:ρ 0=0)(hn:0<n):∀(x:X),X.bare x=true→G T n ρ (ofX x) x
 |.v (.int k z),_=>.i hn (Lin.k_v h0 z).symm
 |.v (.bool b),_=>xM b
 |.fn f cs,h=>.fn (oP h0 hn cs h)
 |.agg cs,h=>.agg (oP h0 hn cs h)
 |.tup cs,h=>.tup (oP h0 hn cs h)
 |.dp cs,h=>.dp (oP h0 hn cs h)
 |.v (.float _ _),_=>.x rfl
 |.v (.complex _ _ _),_=>.x rfl
 |.v (.string _),_=>.x rfl
 |.v (.pointer _),_=>.x rfl
 |.v (.slice _ _ _),_=>.x rfl
 |.v (.map _),_=>.x rfl
 |.v (.chan _),_=>.x rfl
 |.v (.func _ _ _),_=>.x rfl
 |.v .nilFunc,_=>.x rfl
 |.v (.iface _ _),_=>.x rfl
 |.v .nilIface,_=>.x rfl
 |.v (.agg _),_=>.x rfl
 |.v (.tuple _),_=>.x rfl
 |.sl _ _ _,_=>.x rfl
 |.ifc,_=>.x rfl
theorem oP (h0:ρ 0=0)(hn:0<n):∀(xs:List X),BA xs=true→GL T n ρ (Y2 xs) xs
 |[],_=>.nil
 |x::r,h=>by
  have h:(X.bare x&&BA r)=true:=h
  rw [Bool.and_eq_true] at h
  exact .cons (Ve h0 hn x h.1) (oP h0 hn r h.2)
end
def inst1 (h:Lin)(nx:Nat):ET→AX×Nat×List Fact
 |.i k lo hi=>(.i k ⟨nx,0⟩,nx+1,bnd ⟨nx,0⟩ lo hi)
 |.b=>(.b [] [],nx,[])
 |.s lo hi=>(.s ⟨nx,0⟩,nx+1,bnd ⟨nx,0⟩ (some lo) (some hi))
 |.sl sz k lo hi=>(.sl none sz k (h.up (-1)) ⟨nx,0⟩,nx+1,bnd ⟨nx,0⟩ (some lo) (some hi))
 |.z=>(.x (.v .nilFunc),nx,[])
 |.rE=>(.rE,nx,[])
def Bc (h:Lin):Nat→List ET→List AX×Nat×List Fact
 |nx,[]=>([],nx,[])
 |nx,t::r=>match inst1 h nx t with
  |(a,nx',F)=>match Bc h nx' r with
   |(l,zop,F')=>(a::l,zop,F++F')
theorem cZ {ρ:Rho}{n:Nat}{z:Int}:(⟨n,0⟩:Lin).v (upd ρ n z)=z:=by unfold Lin.v;dsimp only;rw [zgb];omega
theorem Zy {h:Lin}{nx:Nat}{t:ET}{x:X}(h0:ρ 0=0)(hn:0<nx)(hh:h.s<nx)(hx:Nc (D T (h.v ρ-1)) t x):∃ρ',More nx ρ (inst1 h nx t).2.1 ρ'∧G T (inst1 h nx t).2.1 ρ' (inst1 h nx t).1 x∧aW (inst1 h nx t).2.1 ρ' (inst1 h nx t).2.2:=by
 have z0:∀z,upd ρ nx z 0=0:=fun z=>by rw [Gt hn];exact h0
 unfold Nc at hx
 split at hx
 ·rename_i k lo hi k' z
  obtain ⟨rfl,h1,h2⟩:=hx
  have hb:aW (nx+1) (upd ρ nx z) (bnd ⟨nx,0⟩ lo hi):=uD (z0 z) (Nat.succ_pos _) (Nat.lt_succ_self _) (by rw [cZ];exact h1) (by rw [cZ];exact h2)
  exact ⟨upd ρ nx z,eX ..,.i (Nat.lt_succ_self _) cZ.symm,hb⟩
 ·exact ⟨ρ,.refl ..,.b (fun _=>.nil) (fun _=>.nil),.nil⟩
 ·rename_i lo hi bs
  have hb:aW (nx+1) (upd ρ nx bs.size) (bnd ⟨nx,0⟩ (some (lo:Int)) (some (hi:Int))):=uD (z0 _) (Nat.succ_pos _) (Nat.lt_succ_self _)
   (by rw [cZ];intro a e;cases e;have:=hx.1;omega) (by rw [cZ];intro a e;cases e;have:=hx.2;omega)
  exact ⟨upd ρ nx bs.size,eX ..,.s (Nat.lt_succ_self _) cZ.symm,hb⟩
 ·rename_i sz k lo hi tt sz' es
  obtain ⟨rfl,h1,h2,h3⟩:=hx
  have hm:=eX ρ nx (es.length:Int)
  have hb:aW (nx+1) (upd ρ nx es.length) (bnd ⟨nx,0⟩ (some (lo:Int)) (some (hi:Int))):=uD (z0 _) (Nat.succ_pos _) (Nat.lt_succ_self _)
   (by rw [cZ];intro a e;cases e;omega) (by rw [cZ];intro a e;cases e;omega)
  refine ⟨upd ρ nx es.length,hm,.sl (Nat.lt_succ_of_lt hh) (Nat.lt_succ_self _) trivial cZ.symm ?_,hb⟩
  rw [Lin.kZ,hm.lin hh];exact h3
 ·exact ⟨ρ,.refl ..,.x rfl,.nil⟩
 ·rcases hx with rfl|rfl
  ·exact ⟨ρ,.refl ..,.ifc,.nil⟩
  ·exact ⟨ρ,.refl ..,.CX,.nil⟩
 ·exact hx.elim
theorem OE {h:Lin}:∀{ts:List ET} {xs:List X} {ρ:Rho} {nx:Nat},ρ 0=0→0<nx→h.s<nx→ETs (D T (h.v ρ-1)) ts xs→∃ρ',More nx ρ (Bc h nx ts).2.1 ρ'∧GL T (Bc h nx ts).2.1 ρ' (Bc h nx ts).1 xs∧aW (Bc h nx ts).2.1 ρ' (Bc h nx ts).2.2
 |[],[],ρ,nx,_,_,_,_=>⟨ρ,.refl ..,.nil,.nil⟩
 |t::ts,x::xs,ρ,nx,h0,hn,hh,⟨hx,hxs⟩=>by
  obtain ⟨ρ1,m1,g1,f1⟩:=Zy h0 hn hh hx
  unfold Bc
  generalize inst1 h nx t=q at m1 g1 f1 ⊢
  obtain ⟨a,nx1,F1⟩:=q
  dsimp only at m1 g1 f1 ⊢
  have hv:h.v ρ1=h.v ρ:=m1.lin hh
  obtain ⟨ρ2,m2,g2,f2⟩:=OE (ts:=ts) (xs:=xs) (ρ:=ρ1) (nx:=nx1) (by rw [m1.same 0 hn];exact h0) (Nat.lt_of_lt_of_le hn m1.le) (m1.lt hh) (by rw [hv];exact hxs)
  generalize Bc h nx1 ts=q at m2 g2 f2 ⊢
  obtain ⟨l,nx2,F2⟩:=q
  exact ⟨ρ2,m1.trans m2,.cons (g1.more m2) g2,(m2.facts f1).append f2⟩
def oLe (F:List Fact)(lo:Option Int)(l:Lin):Bool:=match lo with|none=>true|some a=>leL F (.k a) l
def oGe (F:List Fact)(hi:Option Int)(l:Lin):Bool:=match hi with|none=>true|some b=>leL F l (.k b)
def zlo (F:List Fact)(H:Lin):ET→AX→Bool
 |.i k lo hi,.i k' l=>decide (k'=k)&&oLe F lo l&&oGe F hi l
 |.b,.b _ _=>true
 |.s lo hi,.s l=>leL F (.k lo) l&&leL F l (.k hi)
 |.s lo hi,.x (.v (.string bs))=>Nat.ble lo bs.size&&Nat.ble bs.size hi
 |.sl sz k lo hi,.sl _ sz' k' h l=>Nat.beq sz' sz&&(leL F l (.k 0)||(Nat.beq k' k&&leL F h (H.up (-1))))&&leL F (.k lo) l&&leL F l (.k hi)
 |.sl sz _ lo _,.x (.sl _ sz' [])=>Nat.beq sz' sz&&Nat.beq lo 0
 |.z,.x (.v .nilFunc)=>true
 |.rE,.rE=>true
 |.rE,.x .ifc=>true
 |.rE,.x (.v .nilIface)=>true
 |_,_=>false
def zja (F:List Fact)(H:Lin):List ET→List AX→Bool
 |[],[]=>true
 |t::ts,a::l=>zlo F H t a&&zja F H ts l
 |_,_=>false
def fits (T:Tab)(F:List Fact)(H:Lin)(k:Nat)(cs:List AX):Bool:=leL F (.k 1) H&&(T k).any fun alt=>zja F H alt cs
theorem zeT {F:List Fact}(h0:ρ 0=0)(hF:aW n ρ F){H:Lin}{t:ET}{a:AX}{x:X}(h:zlo F H t a=true)(hg:G T n ρ a x):Nc (D T (H.v ρ-1)) t x:=by
 unfold zlo at h
 split at h
 ·cases hg with
  |i h1 h2=>
   simp only [Bool.and_eq_true,decide_eq_true_eq] at h
   obtain ⟨⟨h3,h4⟩,h5⟩:=h
   refine ⟨h3,fun a e=>?_,fun b e=>?_⟩
   ·subst e
    have:=aQ hF h4
    rw [Lin.k_v h0] at this;rw [h2];exact this
   ·subst e
    have:=aQ hF h5
    rw [Lin.k_v h0] at this;rw [h2];exact this
 ·cases hg;trivial
 ·cases hg with
  |s h1 h2=>
   rw [Bool.and_eq_true] at h
   have h3:=aQ hF h.1
   have h4:=aQ hF h.2
   rw [Lin.k_v h0] at h3 h4
   exact ⟨by omega,by omega⟩
 ·cases hg
  rw [Bool.and_eq_true] at h
  exact ⟨Nat.le_of_ble_eq_true h.1,Nat.le_of_ble_eq_true h.2⟩
 ·cases hg with
  |sl h1 h2 h3 h4 h5=>
   simp only [Bool.and_eq_true,Bool.or_eq_true] at h
   obtain ⟨⟨⟨e1,e2⟩,e3⟩,e4⟩:=h
   have h6:=aQ hF e3
   have h7:=aQ hF e4
   rw [Lin.k_v h0] at h6 h7
   refine ⟨Nat.eq_of_beq_eq_true e1,by omega,by omega,fun e he=>?_⟩
   rcases e2 with e2|⟨e2,e5⟩
   ·have h8:=aQ hF e2
    rw [Lin.k_v h0] at h8
    have:=List.length_pos_of_mem he
    omega
   ·have h8:=aQ hF e5
    rw [Lin.kZ] at h8
    rw [←Nat.eq_of_beq_eq_true e2]
    exact kQ (by omega) (h5 e he)
 ·cases hg
  rw [Bool.and_eq_true] at h
  have:=Nat.eq_of_beq_eq_true h.2
  subst this
  exact ⟨Nat.eq_of_beq_eq_true h.1,Nat.zero_le _,Nat.zero_le _,fun e he=>by cases he⟩
 ·cases hg;trivial
 ·cases hg
  ·exact .inl rfl
  ·exact .inr rfl
 ·cases hg;exact .inl rfl
 ·cases hg;exact .inr rfl
 ·cases h
theorem Wu {F:List Fact}(h0:ρ 0=0)(hF:aW n ρ F){H:Lin}:∀{ts:List ET} {l:List AX} {xs:List X},zja F H ts l=true→GL T n ρ l xs→ETs (D T (H.v ρ-1)) ts xs
 |[],[],_,_,.nil=>trivial
 |t::ts,a::l,_,h,.cons h1 h2=>by
  unfold zja at h
  rw [Bool.and_eq_true] at h
  exact ⟨zeT h0 hF h.1 h1,Wu h0 hF h.2 h2⟩
theorem LV {F:List Fact}(h0:ρ 0=0)(hF:aW n ρ F){H:Lin}{k:Nat}{cs:List AX}{xs:List X}(h:fits T F H k cs=true)(hg:GL T n ρ cs xs):D T (H.v ρ) k xs:=by
 unfold fits at h
 rw [Bool.and_eq_true] at h
 obtain ⟨alt,ha,hf⟩:=List.any_eq_true.1 h.2
 have h1:=aQ hF h.1
 rw [Lin.k_v h0] at h1
 exact dY h1 ha (Wu h0 hF hf hg)
end Go.Ab
namespace Go.Ab
open Go.Em
variable {T:Tab} {n:Nat} {ρ:Rho}
def lkA:List (Nat×AX)→Nat→Option AX
 |[],_=>none
 |(k,x)::r,n=>if k==n then some x else lkA r n
theorem iM:∀{l:List (Nat×AX)} {m:List (Nat×X)} {s:Nat} {a:AX},GT T n ρ l m→lkA l s=some a→∃x,lk m s=some x∧G T n ρ a x
 |_,_,_,_,.nil,e=>by cases e
 |_,_,s,a,.cons (k:=k) h1 h2,e=>by
  unfold lkA at e
  unfold lk
  split at e
  ·cases e;rename_i hk;rw [if_pos hk];exact ⟨_,rfl,h1⟩
  ·rename_i hk;rw [if_neg hk];exact iM h2 e
theorem qc:∀{l:List (Nat×AX)} {m:List (Nat×X)} {s:Nat},GT T n ρ l m→lkA l s=none→lk m s=none
 |_,_,_,.nil,_=>rfl
 |_,_,s,.cons (k:=k) h1 h2,e=>by
  unfold lkA at e
  unfold lk
  split at e
  ·cases e
  ·rename_i hk;rw [if_neg hk];exact qc h2 e
def ASt.ev (a:ASt):Opd→Option AX
 |.t m=>lkA a.tm m
 |.k x=>if X.bare x then some (ofX x) else none
theorem bK {a:ASt}{σ:St}(h:R T ρ a σ){o:Opd}{y:AX}(e:a.ev o=some y):∃x,σ.ev o=some x∧G T a.nx ρ y x:=by
 cases o with
 |t m=>exact iM h.tm e
 |k x=>
  unfold ASt.ev at e
  dsimp only at e
  split at e
  ·rename_i hb;cases e;exact ⟨x,rfl,Ve h.zero h.pos x hb⟩
  ·cases e
def zeU (a:ASt):List Opd→Option (List AX)
 |[]=>some []
 |o::r=>match a.ev o with
  |none=>none
  |some x=>(zeU a r).map (x::·)
theorem Fq {a:ASt}{σ:St}(h:R T ρ a σ):∀{l:List Opd} {ys:List AX},zeU a l=some ys→∃xs,evs σ l=some xs∧GL T a.nx ρ ys xs
 |[],ys,e=>by simp only [zeU,Option.some.injEq] at e;subst e;exact ⟨[],rfl,.nil⟩
 |o::r,ys,e=>by
  unfold zeU at e
  split at e
  ·cases e
  ·rename_i y hy
   obtain ⟨ys',h1,rfl⟩:=Option.map_eq_some_iff.1 e
   obtain ⟨x,hx,hg⟩:=bK h hy
   obtain ⟨xs,hxs,hgs⟩:=Fq h h1
   exact ⟨x::xs,by unfold evs;rw [hx];simp only [hxs,Option.map_some],.cons hg hgs⟩
def AX.cells:AX→Option (List AX)
 |.agg cs=>some cs
 |.tup _=>none
 |.x (.agg _)=>none
 |.x (.tup _)=>none
 |.x (.v (.tuple _))=>none
 |.el _ _=>none
 |a=>some [a]
theorem cells_ok {a:AX}{x:X}{cs:List AX}(hg:G T n ρ a x)(h:a.cells=some cs):x.ok1=true∧GL T n ρ cs x.cells:=by
 unfold AX.cells at h
 split at h
 ·cases h;cases hg with|agg h1=>exact ⟨rfl,h1⟩
 ·cases h
 ·cases h
 ·cases h
 ·cases h
 ·cases h
 ·rename_i a h1 h2 h3 h4 h5 h6
  cases h
  have hc:x.ok1=true∧x.cells=[x]:=by
   cases hg with
   |agg _=>exact absurd rfl (h1 _)
   |tup _=>exact absurd rfl (h2 _)
   |x hr=>
    cases x with
    |agg cs=>exact absurd rfl (h3 cs)
    |tup cs=>exact absurd rfl (h4 cs)
    |v y=>
     cases y with
     |tuple t=>exact absurd rfl (h5 t)
     |_=>exact ⟨rfl,rfl⟩
    |_=>exact ⟨rfl,rfl⟩
   |el _ _=>exact absurd rfl (h6 _ _)
   |_=>exact ⟨rfl,rfl⟩
  rw [hc.2]
  exact ⟨hc.1,.one hg⟩
def yF (cs:List AX)(o:Nat)(new:List AX):Option (List AX):=
 if o+new.length≤cs.length then some (cs.take o++new++cs.drop (o+new.length)) else none
theorem uI {cs new r:List AX}{xs xn:List X}{o:Nat}(h1:GL T n ρ cs xs)(h2:GL T n ρ new xn)(e:yF cs o new=some r):∃xr,splice xs o xn=some xr∧GL T n ρ r xr:=by
 unfold yF at e
 split at e
 ·rename_i hc
  cases e
  refine ⟨xs.take o++xn++xs.drop (o+xn.length),?_,?_⟩
  ·unfold splice
   rw [←h1.len,←h2.len,if_pos hc]
  ·rw [←h2.len]
   exact ((h1.take o).append h2).append (h1.drop _)
 ·cases e
def XG (l:Lin):Bool:=Nat.beq l.s 0&&(match l.c with|.ofNat 0=>true|_=>false)
theorem o7 {l:Lin}(h:XG l=true)(h0:ρ 0=0):l.v ρ=0:=by
 unfold XG at h
 rw [Bool.and_eq_true] at h
 obtain ⟨h1,h2⟩:=h
 unfold Lin.v
 rw [Nat.eq_of_beq_eq_true h1,h0]
 split at h2
 ·rename_i e;rw [e];rfl
 ·cases h2
def VE (T:Tab)(a:ASt)(k:Nat)(h:Lin):List (List AX×ASt):=(T k).map fun alt=>match Bc h a.nx alt with
 |(cs,nx,F)=>(cs,{a with nx:=nx,F:=ak (.k 1) h::(F++a.F)})
theorem yh {a:ASt}{σ:St}(hr:R T ρ a σ){k:Nat}{h:Lin}{xs:List X}(hh:h.s<a.nx)(hd:D T (h.v ρ) k xs):∃q,q∈VE T a k h∧∃ρ',More a.nx ρ q.2.nx ρ'∧R T ρ' q.2 σ∧GL T q.2.nx ρ' q.1 xs:=by
 obtain ⟨h1,alt,ha,hs⟩:=qG hd
 obtain ⟨ρ',hm,hg,hf⟩:=OE hr.zero hr.pos hh hs
 refine ⟨_,List.mem_map.2 ⟨alt,ha,rfl⟩,ρ',?_⟩
 generalize Bc h a.nx alt=q at hm hg hf ⊢
 obtain ⟨cs,nx,F⟩:=q
 dsimp only at hm hg hf ⊢
 refine ⟨hm,?_,hg⟩
 have h2:=hr.more hm
 have h3:(ak (.k 1) h).ok nx ρ':=aC.2 ⟨h2.pos,hm.lt hh,by rw [Lin.k_v h2.zero,hm.lin hh];exact h1⟩
 exact ⟨h2.zero,h2.pos,aW.cons h3 (hf.append h2.F),h2.tm,h2.bx⟩
def zc4 (T:Tab)(a:ASt):AX→Option (List (List AX×ASt))
 |.ptr i e o=>match a.bx[i]? with
  |some (.var cs)=>if XG e then some [(cs.drop o,a)] else none
  |some (.row _ k h l)=>if leL a.F (e.up 1) l&&leL a.F (.k 0) e then some ((VE T a k h).map fun q=>(q.1.drop o,q.2)) else none
  |_=>none
 |.dp cs=>some [(cs,a)]
 |_=>none
theorem jC {α:Type}{l:List α}{i:Nat}(h:i<l.length):∃x,l[i]?=some x∧x∈l:=⟨l[i],List.getElem?_eq_getElem h,List.getElem_mem h⟩
theorem Zd {a:ASt}{σ:St}(hr:R T ρ a σ){p:AX}{q:X}(hp:G T a.nx ρ p q){outs:List (List AX×ASt)}(e:zc4 T a p=some outs):
  ∃r,r∈outs∧∃ρ' xs,More a.nx ρ r.2.nx ρ'∧R T ρ' r.2 σ∧GL T r.2.nx ρ' r.1 xs∧iL σ q=some xs:=by
 unfold zc4 at e
 split at e
 ·rename_i i e0 o
  cases hp with
  |ptr h1 h2=>
   rename_i e'
   split at e
   ·rename_i cs hb
    split at e
    ·rename_i hz
     cases e
     obtain ⟨b,hb',hg⟩:=hr.bx.get hb
     cases hg with
     |var hg=>
      have h0:=o7 hz hr.zero
      have:e'=0:=by omega
      subst this
      exact ⟨_,List.mem_singleton.2 rfl,ρ,_,.refl ..,hr,hg.drop o,by simp only [iL,hb'];rfl⟩
    ·cases e
   ·rename_i sz k h l hb
    split at e
    ·rename_i hc
     cases e
     rw [Bool.and_eq_true] at hc
     obtain ⟨b,hb',hg⟩:=hr.bx.get hb
     cases hg with
     |row g1 g2 g3 g4=>
      rename_i es
      have c1:=aQ hr.F hc.1
      rw [Lin.kZ] at c1
      obtain ⟨x,hx,hmem⟩:=jC (show e'<es.length by omega)
      obtain ⟨q,hq,ρ',m1,m2,m3⟩:=yh hr g1 (g4 x hmem)
      exact ⟨_,List.mem_map.2 ⟨q,hq,rfl⟩,ρ',_,m1,m2,m3.drop o,by simp only [iL,hb',hx];rfl⟩
    ·cases e
   ·cases e
 ·cases e
  cases hp with
  |dp hg=>exact ⟨_,List.mem_singleton.2 rfl,ρ,_,.refl ..,hr,hg,rfl⟩
 ·cases e
def takeA (m:Option Nat)(cs:List AX):Option AX:=match m with
 |none=>cs.head?
 |some m=>if (cs.take m).length==m then some (.agg (cs.take m)) else none
theorem xO {m:Option Nat}{cs:List AX}{xs:List X}{y:AX}(hg:GL T n ρ cs xs)(e:takeA m cs=some y):∃x,(match m with|none=>xs.head?|some m=>if (xs.take m).length==m then some (X.agg (xs.take m)) else none)=some x∧G T n ρ y x:=by
 cases m with
 |none=>
  cases hg with
  |nil=>cases e
  |cons h1 _=>simp only [takeA,List.head?_cons,Option.some.injEq] at e;subst e;exact ⟨_,rfl,h1⟩
 |some m=>
  unfold takeA at e
  dsimp only at e ⊢
  split at e
  ·rename_i hc
   cases e
   have h1:=hg.take m
   rw [←h1.len,if_pos hc]
   exact ⟨_,rfl,.agg h1⟩
  ·cases e
def TV (T:Tab)(a:ASt)(m:Nat)(p:AX)(new:List AX):Option ASt:=
 if new.length==m then match p with
  |.ptr i e o=>match a.bx[i]? with
   |some (.var cs)=>if XG e then (yF cs o new).map fun cs'=>{a with bx:=a.bx.set i (.var cs')} else none
   |some (.row _ k h l)=>if (oq new).isEmpty&&leL a.F (e.up 1) l&&leL a.F (.k 0) e&&(VE T a k h).all (fun q=>match yF q.1 o new with|some cs'=>fits T q.2.F h k cs'|none=>false) then some a else none
   |_=>none
  |_=>none
 else none
theorem GBs.same:∀{l:List ABx} {m:List Bx} {i:Nat} {a:ABx} {x:Bx},GBs T n ρ l m→l[i]?=some a→GB T n ρ a x→GBs T n ρ l (m.set i x)
 |_,_,i,_,_,.nil,e,_=>by simp at e
 |_,_,0,_,_,.cons _ h2,e,hx=>by simp at e;subst e;exact .cons hx h2
 |_,_,i+1,_,_,.cons h1 h2,e,hx=>.cons h1 (h2.same (by simpa using e) hx)
theorem TU {a a':ASt}{σ:St}(hr:R T ρ a σ){p:AX}{q y:X}{m:Nat}{new:List AX}(hp:G T a.nx ρ p q)(h1:y.ok1=true)(hn:GL T a.nx ρ new y.cells)(e:TV T a m p new=some a'):
  ∃bx,jm σ.bx m q y=some bx∧R T ρ a' ⟨σ.tm,bx⟩∧a'.nx=a.nx:=by
 unfold TV at e
 split at e
 ·rename_i hm
  have hm':(y.ok1&&y.cells.length==m)=true:=by rw [h1,←hn.len];exact hm
  split at e
  ·rename_i i e0 o
   cases hp with
   |ptr p1 p2=>
    rename_i e'
    split at e
    ·rename_i cs hb
     split at e
     ·rename_i hz
      obtain ⟨cs',hc',rfl⟩:=Option.map_eq_some_iff.1 e
      obtain ⟨b,hb',hg⟩:=hr.bx.get hb
      cases hg with
      |var hg=>
       have h0:=o7 hz hr.zero
       have:e'=0:=by omega
       subst this
       obtain ⟨xr,hx,hg'⟩:=uI hg hn hc'
       refine ⟨σ.bx.set i (.var xr),?_,⟨hr.zero,hr.pos,hr.F,hr.tm,hr.bx.set i (.var hg')⟩,rfl⟩
       unfold jm
       rw [if_pos hm']
       dsimp only
       rw [hb']
       dsimp only
       rw [if_pos (show (0==0)=true from rfl),hx];rfl
     ·cases e
    ·rename_i sz k h l hb
     split at e
     ·rename_i hc
      cases e
      simp only [Bool.and_eq_true,List.all_eq_true] at hc
      obtain ⟨⟨⟨c1,c2⟩,c3⟩,c4⟩:=hc
      obtain ⟨b,hb',hg⟩:=hr.bx.get hb
      cases hg with
      |row g1 g2 g3 g4=>
       rename_i es
       have d1:=aQ hr.F c2
       rw [Lin.kZ] at d1
       obtain ⟨x,hx,hmem⟩:=jC (show e'<es.length by omega)
       obtain ⟨q,hq,ρ',m1,m2,m3⟩:=yh hr g1 (g4 x hmem)
       have c5:=c4 q hq
       split at c5
       ·rename_i cs' hs
        obtain ⟨xr,hx',hg'⟩:=uI m3 (hn.more m1) hs
        have hd:=LV m2.zero m2.F c5 hg'
        rw [m1.lin g1] at hd
        refine ⟨σ.bx.set i (.row sz (es.set e' xr)),?_,⟨hr.zero,hr.pos,hr.F,hr.tm,hr.bx.same hb (.row g1 g2 (by rw [List.length_set];exact g3) fun w hw=>?_)⟩,rfl⟩
        ·unfold jm
         rw [if_pos hm']
         dsimp only
         rw [hb']
         dsimp only
         rw [hx]
         dsimp only
         rw [hn.refs,if_pos c1,hx'];rfl
        ·rcases List.mem_or_eq_of_mem_set hw with hw|rfl
         ·exact g4 w hw
         ·exact hd
       ·cases c5
     ·cases e
    ·cases e
  ·cases e
 ·cases e
end Go.Ab
namespace Go.Ab
open Go.Em
variable {T:Tab} {n:Nat} {ρ:Rho}
def XF:IntKind→Int
 |.i8=>-128|.i16=>-32768|.i32=>-2147483648|.i64=>-9223372036854775808
 |_=>0
def Vu:IntKind→Int
 |.i8=>127|.i16=>32767|.i32=>2147483647|.i64=>9223372036854775807
 |.u8=>255|.u16=>65535|.u32=>4294967295|_=>18446744073709551615
theorem jL (k:IntKind)(z:Int):XF k≤k.wrap z:=by
 cases k<;>simp [IntKind.wrap,IntKind.bits,IntKind.signed,XF]<;>(try split)<;>omega
theorem jM (k:IntKind)(z:Int):k.wrap z≤Vu k:=by
 cases k<;>simp [IntKind.wrap,IntKind.bits,IntKind.signed,Vu]<;>(try split)<;>omega
theorem yx {k:IntKind}{z:Int}(h1:XF k≤z)(h2:z≤Vu k):k.wrap z=z:=by
 cases k<;>simp only [XF,Vu] at h1 h2<;>simp [IntKind.wrap,IntKind.bits,IntKind.signed]<;>(try split)<;>omega
abbrev Out:=AX×ASt×FP
def fp0:FP:=⟨false,[],[]⟩
def dB (T:Tab)(ρ:Rho)(a:ASt)(σ:St)(i:I)(outs:List Out):Prop:=
 ∃o,o∈outs∧∃ρ' x bx,More a.nx ρ o.2.1.nx ρ'∧R T ρ' o.2.1 ⟨σ.tm,bx⟩∧G T o.2.1.nx ρ' o.1 x∧∀Γ,au Γ σ i=some (x,bx,o.2.2)
theorem dB.one {a:ASt}{σ:St}{i:I}{y:AX}{x:X}{fp:FP}(hr:R T ρ a σ)(hg:G T a.nx ρ y x)(hs:∀Γ,au Γ σ i=some (x,σ.bx,fp)):dB T ρ a σ i [(y,a,fp)]:=
 ⟨_,List.mem_singleton.2 rfl,ρ,x,σ.bx,.refl ..,hr,hg,hs⟩
def SV (a:ASt)(k:IntKind)(Fs:List Fact):Out:=(.i k ⟨a.nx,0⟩,{a with nx:=a.nx+1,F:=Fs++a.F},fp0)
theorem ku {a:ASt}{σ:St}{i:I}{k:IntKind}{z:Int}{Fs:List Fact}(hr:R T ρ a σ)(hF:aW (a.nx+1) (upd ρ a.nx z) Fs)(hs:∀Γ,au Γ σ i=some (.v (.int k z),σ.bx,fp0)):dB T ρ a σ i [SV a k Fs]:=by
 have hm:=eX ρ a.nx z
 have h1:=hr.more hm
 exact ⟨_,List.mem_singleton.2 rfl,upd ρ a.nx z,_,σ.bx,hm,⟨h1.zero,h1.pos,hF.append h1.F,h1.tm,h1.bx⟩,.i (Nat.lt_succ_self _) cZ.symm,hs⟩
def zjS (a:ASt)(l:Lin)(Fs:List Fact):Out:=(.s l,{a with nx:=a.nx+1,F:=Fs++a.F},fp0)
def low (F:List Fact)(l:Lin):Option Int:=
 if Nat.beq l.s 0 then some l.c else (zf4 (rounds 3 F [(0,0)]) l.s).map fun d=>l.c-d
def high (F:List Fact)(l:Lin):Option Int:=
 if Nat.beq l.s 0 then some l.c else (zf4 (rounds 3 F [(l.s,0)]) 0).map fun d=>l.c+d
theorem sZ {F:List Fact}(h0:ρ 0=0)(hF:aW n ρ F){l:Lin}{c:Int}(h:low F l=some c):c≤l.v ρ:=by
 unfold low at h
 unfold Lin.v
 split at h
 ·rename_i e
  cases h
  rw [Nat.eq_of_beq_eq_true e];omega
 ·obtain ⟨d,hd,rfl⟩:=Option.map_eq_some_iff.1 h
  have h1:zbC ρ 0 [(0,0)]:=fun p hp=>by rw [List.mem_singleton.1 hp];dsimp only;omega
  have h2:=yU hF 3 h1 _ (yj hd)
  dsimp only at h2
  omega
theorem iT {F:List Fact}(h0:ρ 0=0)(hF:aW n ρ F){l:Lin}{c:Int}(h:high F l=some c):l.v ρ≤c:=by
 unfold high at h
 unfold Lin.v
 split at h
 ·rename_i e
  cases h
  rw [Nat.eq_of_beq_eq_true e];omega
 ·obtain ⟨d,hd,rfl⟩:=Option.map_eq_some_iff.1 h
  have h1:zbC ρ l.s [(l.s,0)]:=fun p hp=>by rw [List.mem_singleton.1 hp];dsimp only;omega
  have h2:=yU hF 3 h1 _ (yj hd)
  dsimp only at h2
  omega
def SK (a b:Lin):Option Lin:=if Nat.beq b.s 0 then some (a.up b.c) else if Nat.beq a.s 0 then some (b.up a.c) else none
def zfP (a b:Lin):Option Lin:=if Nat.beq b.s 0 then some (a.up (-b.c)) else if Nat.beq a.s b.s then some (.k (a.c-b.c)) else none
theorem nR (h0:ρ 0=0){a b c:Lin}(h:SK a b=some c):c.v ρ=a.v ρ+b.v ρ:=by
 unfold SK at h
 split at h
 ·rename_i e;cases h;rw [Lin.kZ];unfold Lin.v;rw [Nat.eq_of_beq_eq_true e];omega
 ·split at h
  ·rename_i e;cases h;rw [Lin.kZ];unfold Lin.v;rw [Nat.eq_of_beq_eq_true e];omega
  ·cases h
theorem TP (h0:ρ 0=0){a b c:Lin}(h:zfP a b=some c):c.v ρ=a.v ρ-b.v ρ:=by
 unfold zfP at h
 split at h
 ·rename_i e;cases h;rw [Lin.kZ];unfold Lin.v;rw [Nat.eq_of_beq_eq_true e];omega
 ·split at h
  ·rename_i e;cases h;rw [Lin.k_v h0];unfold Lin.v;rw [Nat.eq_of_beq_eq_true e];omega
  ·cases h
theorem AP {a b c:Lin}(h:SK a b=some c)(ha:a.s<n)(hb:b.s<n):c.s<n:=by
 unfold SK at h
 split at h
 ·cases h;exact ha
 ·split at h
  ·cases h;exact hb
  ·cases h
theorem TQ {a b c:Lin}(hn:0<n)(h:zfP a b=some c)(ha:a.s<n):c.s<n:=by
 unfold zfP at h
 split at h
 ·cases h;exact ha
 ·split at h
  ·cases h;exact hn
  ·cases h
def anyI (a:ASt)(k:IntKind):Out:=SV a k (bnd ⟨a.nx,0⟩ (some (XF k)) (some (Vu k)))
theorem kP {a:ASt}{σ:St}{i:I}{k:IntKind}{z:Int}(hr:R T ρ a σ)(h1:XF k≤z)(h2:z≤Vu k)(hs:∀Γ,au Γ σ i=some (.v (.int k z),σ.bx,fp0)):dB T ρ a σ i [anyI a k]:=
 ku hr (uD (by rw [Gt hr.pos];exact hr.zero) (Nat.succ_pos _) (Nat.lt_succ_self _) (by rw [cZ];intro a e;cases e;exact h1) (by rw [cZ];intro a e;cases e;exact h2)) hs
def inI (a:ASt)(k:IntKind)(l:Lin):Option Out:=if leL a.F (.k (XF k)) l&&leL a.F l (.k (Vu k)) then some (.i k l,a,fp0) else none
def zlU (a:ASt)(k:IntKind)(x y:Lin):Out:=
 match SK x y with
 |some l=>(inI a k l).getD (anyI a k)
 |none=>match low a.F x,low a.F y,high a.F x,high a.F y with
  |some lx,some ly,some hx,some hy=>
   if leI (XF k) (lx+ly)&&leI (hx+hy) (Vu k) then
    SV a k (ak (x.up ly) ⟨a.nx,0⟩::ak (y.up lx) ⟨a.nx,0⟩::ak ⟨a.nx,0⟩ (x.up hy)::[ak ⟨a.nx,0⟩ (y.up hx)])
   else anyI a k
  |_,_,_,_=>anyI a k
def ziF (a:ASt)(k:IntKind)(x y:Lin):Out:=
 match zfP x y with
 |some l=>(inI a k l).getD (anyI a k)
 |none=>match low a.F x,low a.F y,high a.F x,high a.F y with
  |some lx,some ly,some hx,some hy=>
   if leI (XF k) (lx-hy)&&leI (hx-ly) (Vu k) then
    SV a k (ak (x.up (-hy)) ⟨a.nx,0⟩::ak ⟨a.nx,0⟩ (x.up (-ly))::(if leL a.F y x then [ak (.k 0) ⟨a.nx,0⟩] else []))
   else anyI a k
  |_,_,_,_=>anyI a k
theorem zhs {a:ASt}{σ:St}{i:I}{k:IntKind}{z:Int}{l:Lin}{o:Out}(hr:R T ρ a σ)(hl:l.s<a.nx)(hz:l.v ρ=z)(hs:∀Γ,au Γ σ i=some (.v (.int k (k.wrap z)),σ.bx,fp0))(h:inI a k l=some o):dB T ρ a σ i [o]:=by
 unfold inI at h
 split at h
 ·rename_i hc
  cases h
  rw [Bool.and_eq_true] at hc
  have h1:=aQ hr.F hc.1
  have h2:=aQ hr.F hc.2
  rw [Lin.k_v hr.zero] at h1 h2
  exact .one hr (.i hl hz.symm) (fun Γ=>by rw [hs Γ,yx (by omega) (by omega)])
 ·cases h
theorem LH {a:ASt}{σ:St}{i:I}{k:IntKind}{z:Int}{l:Lin}(hr:R T ρ a σ)(hl:l.s<a.nx)(hz:l.v ρ=z)(hs:∀Γ,au Γ σ i=some (.v (.int k (k.wrap z)),σ.bx,fp0)):dB T ρ a σ i [(inI a k l).getD (anyI a k)]:=by
 cases h:inI a k l with
 |none=>exact kP hr (jL k z) (jM k z) hs
 |some o=>exact zhs hr hl hz hs h
theorem zfC {a:ASt}{σ:St}{i:I}{k:IntKind}{x y:Lin}(hr:R T ρ a σ)(hx:x.s<a.nx)(hy:y.s<a.nx)(hs:∀Γ,au Γ σ i=some (.v (.int k (k.wrap (x.v ρ+y.v ρ))),σ.bx,fp0)):dB T ρ a σ i [zlU a k x y]:=by
 have hm:=eX ρ a.nx (x.v ρ+y.v ρ)
 unfold zlU
 split
 ·rename_i l h
  exact LH hr (AP h hx hy) (nR hr.zero h) hs
 ·split
  ·rename_i lx ly hx' hy' e1 e2 e3 e4
   have b1:=sZ hr.zero hr.F e1
   have b2:=sZ hr.zero hr.F e2
   have b3:=iT hr.zero hr.F e3
   have b4:=iT hr.zero hr.F e4
   split
   ·rename_i hc
    rw [Bool.and_eq_true,gB,gB] at hc
    refine ku hr (z:=x.v ρ+y.v ρ) (aW.cons ?_ (aW.cons ?_ (aW.cons ?_ (aW.cons ?_ .nil)))) (fun Γ=>by rw [hs Γ,yx (by omega) (by omega)])
    ·exact aC.2 ⟨Nat.lt_succ_of_lt hx,Nat.lt_succ_self _,by rw [Lin.kZ,cZ,hm.lin hx];omega⟩
    ·exact aC.2 ⟨Nat.lt_succ_of_lt hy,Nat.lt_succ_self _,by rw [Lin.kZ,cZ,hm.lin hy];omega⟩
    ·exact aC.2 ⟨Nat.lt_succ_self _,Nat.lt_succ_of_lt hx,by rw [Lin.kZ,cZ,hm.lin hx];omega⟩
    ·exact aC.2 ⟨Nat.lt_succ_self _,Nat.lt_succ_of_lt hy,by rw [Lin.kZ,cZ,hm.lin hy];omega⟩
   ·exact kP hr (jL k _) (jM k _) hs
  ·exact kP hr (jL k _) (jM k _) hs
theorem TR {a:ASt}{σ:St}{i:I}{k:IntKind}{x y:Lin}(hr:R T ρ a σ)(hx:x.s<a.nx)(hy:y.s<a.nx)(hs:∀Γ,au Γ σ i=some (.v (.int k (k.wrap (x.v ρ-y.v ρ))),σ.bx,fp0)):dB T ρ a σ i [ziF a k x y]:=by
 have hm:=eX ρ a.nx (x.v ρ-y.v ρ)
 unfold ziF
 split
 ·rename_i l h
  exact LH hr (TQ hr.pos h hx) (TP hr.zero h) hs
 ·split
  ·rename_i lx ly hx' hy' e1 e2 e3 e4
   have b1:=sZ hr.zero hr.F e1
   have b2:=sZ hr.zero hr.F e2
   have b3:=iT hr.zero hr.F e3
   have b4:=iT hr.zero hr.F e4
   split
   ·rename_i hc
    rw [Bool.and_eq_true,gB,gB] at hc
    refine ku hr (z:=x.v ρ-y.v ρ) (aW.cons ?_ (aW.cons ?_ ?_)) (fun Γ=>by rw [hs Γ,yx (by omega) (by omega)])
    ·exact aC.2 ⟨Nat.lt_succ_of_lt hx,Nat.lt_succ_self _,by rw [Lin.kZ,cZ,hm.lin hx];omega⟩
    ·exact aC.2 ⟨Nat.lt_succ_self _,Nat.lt_succ_of_lt hx,by rw [Lin.kZ,cZ,hm.lin hx];omega⟩
    ·split
     ·rename_i hle
      have:=aQ hr.F hle
      exact aW.cons (aC.2 ⟨Nat.succ_pos _,Nat.lt_succ_self _,by rw [cZ,Lin.k_v (by rw [Gt hr.pos];exact hr.zero)];omega⟩) .nil
     ·exact .nil
   ·exact kP hr (jL k _) (jM k _) hs
  ·exact kP hr (jL k _) (jM k _) hs
end Go.Ab
namespace Go.Ab
open Go.Em
variable {T:Tab} {n:Nat} {ρ:Rho}
theorem zfo (k:IntKind)(x y:Int):jq .add (.int k x) (.int k y)=some (.int k (k.wrap (x+y))):=by simp [jq,binOp,Op.intArith,bJ];rfl
theorem ze9 (k:IntKind)(x y:Int):jq .sub (.int k x) (.int k y)=some (.int k (k.wrap (x-y))):=by simp [jq,binOp,Op.intArith,bJ];rfl
theorem zfg (k:IntKind)(x y:Int):jq .mul (.int k x) (.int k y)=some (.int k (k.wrap (x*y))):=by simp [jq,binOp,Op.intArith,bJ];rfl
theorem zfe (k:IntKind)(x y:Int)(h:y≠0):jq .quo (.int k x) (.int k y)=some (.int k (k.wrap (x.tdiv y))):=by simp [jq,binOp,Op.intDiv,bJ,h];rfl
theorem zfd (k:IntKind)(x y:Int)(h:y≠0):jq .rem (.int k x) (.int k y)=some (.int k (x.tmod y)):=by simp [jq,binOp,Op.intDiv,bJ,h];rfl
theorem zfc (k k':IntKind)(x y:Int)(h:¬y<0):jq .shl (.int k x) (.int k' y)=some (.int k (k.wrap (x*2^min y.toNat k.bits))):=by simp [jq,binOp,Op.shift,bJ,h];rfl
theorem zfb (k k':IntKind)(x y:Int)(h:¬y<0):jq .shr (.int k x) (.int k' y)=some (.int k (x.fdiv (2^min y.toNat k.bits))):=by simp [jq,binOp,Op.shift,bJ,h];rfl
theorem zfl (k:IntKind)(x y:Int):jq .eql (.int k x) (.int k y)=some (.bool (x==y)):=by simp [jq,binOp,Op.intCmp,bJ];rfl
theorem zff (k:IntKind)(x y:Int):jq .neq (.int k x) (.int k y)=some (.bool (x !=y)):=by simp [jq,binOp,Op.intCmp,bJ];rfl
theorem zfh (k:IntKind)(x y:Int):jq .lss (.int k x) (.int k y)=some (.bool (x<y)):=by simp [jq,binOp,Op.intCmp,bJ];rfl
theorem zfi (k:IntKind)(x y:Int):jq .leq (.int k x) (.int k y)=some (.bool (x≤y)):=by simp [jq,binOp,Op.intCmp,bJ];rfl
theorem zfj (k:IntKind)(x y:Int):jq .gtr (.int k x) (.int k y)=some (.bool (x>y)):=by simp [jq,binOp,Op.intCmp,bJ];rfl
theorem zfk (k:IntKind)(x y:Int):jq .geq (.int k x) (.int k y)=some (.bool (x≥y)):=by simp [jq,binOp,Op.intCmp,bJ];rfl
def zbo:BinOp→Bool
 |.and|.or|.xor|.andNot=>true
 |_=>false
theorem zaJ (k:IntKind)(x y:Int){op:BinOp}(h:zbo op=true):∃z,jq op (.int k x) (.int k y)=some (.int k (k.wrap z)):=by
 cases op<;>first
  |exact absurd h (by decide)
  |exact ⟨((BitVec.ofInt k.bits x&&& BitVec.ofInt k.bits y).toNat:Int),by simp only [jq,binOp,Op.intBits,ne_eq,not_true_eq_false,if_false];rfl⟩
  |exact ⟨((BitVec.ofInt k.bits x|||BitVec.ofInt k.bits y).toNat:Int),by simp only [jq,binOp,Op.intBits,ne_eq,not_true_eq_false,if_false];rfl⟩
  |exact ⟨((BitVec.ofInt k.bits x^^^BitVec.ofInt k.bits y).toNat:Int),by simp only [jq,binOp,Op.intBits,ne_eq,not_true_eq_false,if_false];rfl⟩
  |exact ⟨((BitVec.ofInt k.bits x&&& ~~~BitVec.ofInt k.bits y).toNat:Int),by simp only [jq,binOp,Op.intBits,ne_eq,not_true_eq_false,if_false];rfl⟩
def Zj:BinOp→Bool
 |.eql|.neq|.lss|.leq|.gtr|.geq=>true
 |_=>false
theorem zfa (x y:ByteArray){op:BinOp}(h:Zj op=true):∃b,jq op (.string x) (.string y)=some (.bool b):=by
 cases op<;>first
  |exact absurd h (by decide)
  |exact ⟨_,rfl⟩
theorem zfn (x y:ByteArray)(h:((x.size+y.size:Nat):Int)≤9223372036854775807):jq .add (.string x) (.string y)=some (.string (x++y)):=by
 have h2:¬((x.size+y.size:Nat):Int)>IntKind.i64.max:=by
  have:IntKind.i64.max=9223372036854775807:=by decide
  omega
 simp only [jq,binOp,Op.stringOp,if_neg h2]
 rfl
theorem zgh (k:IntKind)(x:Int):unV .neg (.int k x)=some (.int k (k.wrap (0-x))):=by simp [unV,Op.unary,Op.intArith,bJ];rfl
theorem zgf (k:IntKind)(x:Int):∃z,unV .xor (.int k x)=some (.int k (k.wrap z)):=by
 exact ⟨((BitVec.ofInt k.bits (if k.signed then -1 else k.max)^^^BitVec.ofInt k.bits x).toNat:Int),rfl⟩
theorem zgg (b:Bool):unV .not (.bool b)=some (.bool !b):=by simp [unV,Op.unary,bJ];rfl
def nonneg (F:List Fact)(l:Lin):Bool:=leL F (.k 0) l
def zjT (a:ASt)(k:IntKind)(x y:Lin):Out:=
 match low a.F x,low a.F y,high a.F x,high a.F y with
 |some lx,some ly,some hx,some hy=>
  if leI 0 lx&&leI 0 ly&&leI (hx*hy) (Vu k) then SV a k (bnd ⟨a.nx,0⟩ (some (lx*ly)) (some (hx*hy))) else anyI a k
 |_,_,_,_=>anyI a k
theorem Vt (k:IntKind):XF k≤0:=by cases k<;>decide
theorem kU {a:ASt}{σ:St}(hr:R T ρ a σ)(z:Int):upd ρ a.nx z 0=0:=by rw [Gt hr.pos];exact hr.zero
theorem zcW {a:ASt}{σ:St}{i:I}{k:IntKind}{x y:Lin}(hr:R T ρ a σ)(hs:∀Γ,au Γ σ i=some (.v (.int k (k.wrap (x.v ρ*y.v ρ))),σ.bx,fp0)):dB T ρ a σ i [zjT a k x y]:=by
 unfold zjT
 split
 ·rename_i lx ly hx' hy' e1 e2 e3 e4
  have b1:=sZ hr.zero hr.F e1
  have b2:=sZ hr.zero hr.F e2
  have b3:=iT hr.zero hr.F e3
  have b4:=iT hr.zero hr.F e4
  split
  ·rename_i hc
   simp only [Bool.and_eq_true,gB] at hc
   obtain ⟨⟨c1,c2⟩,c3⟩:=hc
   have d1:lx*ly≤x.v ρ*y.v ρ:=Int.mul_le_mul b1 b2 c2 (by omega)
   have d2:x.v ρ*y.v ρ≤hx'*hy':=Int.mul_le_mul b3 b4 (by omega) (by omega)
   have d3:0≤lx*ly:=Int.mul_nonneg c1 c2
   have:=Vt k
   exact ku hr (uD (kU hr _) (Nat.succ_pos _) (Nat.lt_succ_self _) (by rw [cZ];intro a e;cases e;exact d1) (by rw [cZ];intro a e;cases e;exact d2)) (fun Γ=>by rw [hs Γ,yx (by omega) (by omega)])
  ·exact kP hr (jL k _) (jM k _) hs
 ·exact kP hr (jL k _) (jM k _) hs
def zjJ (a:ASt)(k:IntKind)(x:Lin):Out:=
 if nonneg a.F x&&leL a.F x (.k (Vu k)) then SV a k [ak (.k 0) ⟨a.nx,0⟩,ak ⟨a.nx,0⟩ x] else anyI a k
theorem zcC {a:ASt}{σ:St}{i:I}{k:IntKind}{x:Lin}{z:Int}(hr:R T ρ a σ)(hx:x.s<a.nx)(h1:0≤x.v ρ→0≤z∧z≤x.v ρ)(hs:∀Γ,au Γ σ i=some (.v (.int k (k.wrap z)),σ.bx,fp0)):dB T ρ a σ i [zjJ a k x]:=by
 unfold zjJ
 split
 ·rename_i hc
  rw [Bool.and_eq_true] at hc
  have c1:=aQ hr.F hc.1
  have c2:=aQ hr.F hc.2
  rw [Lin.k_v hr.zero] at c1 c2
  obtain ⟨h2,h3⟩:=h1 c1
  have:=Vt k
  have hm:=eX ρ a.nx z
  refine ku hr (z:=z) (aW.cons ?_ (aW.cons ?_ .nil)) (fun Γ=>by rw [hs Γ,yx (by omega) (by omega)])
  ·exact aC.2 ⟨Nat.succ_pos _,Nat.lt_succ_self _,by rw [cZ,Lin.k_v (kU hr _)];exact h2⟩
  ·exact aC.2 ⟨Nat.lt_succ_self _,Nat.lt_succ_of_lt hx,by rw [cZ,hm.lin hx];exact h3⟩
 ·exact kP hr (jL k _) (jM k _) hs
def zjF (a:ASt)(k:IntKind)(x y:Lin):Out:=
 if nonneg a.F x then SV a k [ak (.k 0) ⟨a.nx,0⟩,ak ⟨a.nx,0⟩ x,ak ⟨a.nx,0⟩ (y.up (-1))]
 else SV a k (ak ⟨a.nx,0⟩ (y.up (-1))::(match high a.F y with|some h=>bnd ⟨a.nx,0⟩ (some (1-h)) none|none=>[]))
theorem zcA {a:ASt}{σ:St}{i:I}{k:IntKind}{x y:Lin}(hr:R T ρ a σ)(hx:x.s<a.nx)(hy:y.s<a.nx)(h1:1≤y.v ρ)(hs:∀Γ,au Γ σ i=some (.v (.int k ((x.v ρ).tmod (y.v ρ))),σ.bx,fp0)):dB T ρ a σ i [zjF a k x y]:=by
 have hm:=eX ρ a.nx ((x.v ρ).tmod (y.v ρ))
 have u1:(x.v ρ).tmod (y.v ρ)<y.v ρ:=Int.tmod_lt_of_pos _ (by omega)
 have hlt:(ak ⟨a.nx,0⟩ (y.up (-1))).ok (a.nx+1) (upd ρ a.nx ((x.v ρ).tmod (y.v ρ))):=aC.2 ⟨Nat.lt_succ_self _,Nat.lt_succ_of_lt hy,by rw [cZ,Lin.kZ,hm.lin hy];omega⟩
 unfold zjF
 split
 ·rename_i hc
  have c1:=aQ hr.F hc
  rw [Lin.k_v hr.zero] at c1
  have u2:0≤(x.v ρ).tmod (y.v ρ):=Int.tmod_nonneg _ c1
  have u3:(x.v ρ).tmod (y.v ρ)≤x.v ρ:=by
   rw [Int.tmod_eq_emod_of_nonneg c1]
   by_cases hlt:x.v ρ<y.v ρ
   ·rw [Int.emod_eq_of_lt c1 hlt];omega
   ·have:=Int.emod_lt_of_pos (x.v ρ) (show 0<y.v ρ by omega)
    omega
  refine ku hr (aW.cons ?_ (aW.cons ?_ (aW.cons hlt .nil))) hs
  ·exact aC.2 ⟨Nat.succ_pos _,Nat.lt_succ_self _,by rw [cZ,Lin.k_v (kU hr _)];exact u2⟩
  ·exact aC.2 ⟨Nat.lt_succ_self _,Nat.lt_succ_of_lt hx,by rw [cZ,hm.lin hx];exact u3⟩
 ·refine ku hr (aW.cons hlt ?_) hs
  split
  ·rename_i h e
   have b:=iT hr.zero hr.F e
   have u4:-(y.v ρ)<(x.v ρ).tmod (y.v ρ):=Int.lt_tmod_of_pos _ (by omega)
   exact uD (kU hr _) (Nat.succ_pos _) (Nat.lt_succ_self _) (by rw [cZ];intro a e;cases e;omega) (by intro a e;cases e)
  ·exact .nil
def zjz (a:ASt)(k:IntKind)(x:Lin):Out:=
 if nonneg a.F x then SV a k [ak (.k 0) ⟨a.nx,0⟩,ak ⟨a.nx,0⟩ x] else SV a k []
theorem LY {x:Int}(h:0≤x)(m:Nat):0≤x.fdiv (2^m)∧x.fdiv (2^m)≤x:=by
 have hp:(0:Int)<2^m:=Int.pow_pos (by decide)
 rw [Int.fdiv_eq_ediv_of_nonneg _ (by omega)]
 exact ⟨Int.ediv_nonneg h (by omega),Int.ediv_le_self _ h⟩
theorem zcf {a:ASt}{σ:St}{i:I}{k:IntKind}{x:Lin}{m:Nat}(hr:R T ρ a σ)(hx:x.s<a.nx)(hs:∀Γ,au Γ σ i=some (.v (.int k ((x.v ρ).fdiv (2^m))),σ.bx,fp0)):dB T ρ a σ i [zjz a k x]:=by
 have hm:=eX ρ a.nx ((x.v ρ).fdiv (2^m))
 unfold zjz
 split
 ·rename_i hc
  have c1:=aQ hr.F hc
  rw [Lin.k_v hr.zero] at c1
  obtain ⟨h2,h3⟩:=LY c1 m
  refine ku hr (aW.cons ?_ (aW.cons ?_ .nil)) hs
  ·exact aC.2 ⟨Nat.succ_pos _,Nat.lt_succ_self _,by rw [cZ,Lin.k_v (kU hr _)];exact h2⟩
  ·exact aC.2 ⟨Nat.lt_succ_self _,Nat.lt_succ_of_lt hx,by rw [cZ,hm.lin hx];exact h3⟩
 ·exact ku hr .nil hs
def zjb (F:List Fact)(op:BinOp)(x y:Lin):List Fact×List Fact:=
 let ne:=if leL F x y then [ak (x.up 1) y] else if leL F y x then [ak (y.up 1) x] else []
 match op with
 |.eql=>([ak x y,ak y x],ne)
 |.neq=>(ne,[ak x y,ak y x])
 |.lss=>([ak (x.up 1) y],[ak y x])
 |.leq=>([ak x y],[ak (y.up 1) x])
 |.gtr=>([ak (y.up 1) x],[ak x y])
 |.geq=>([ak y x],[ak (x.up 1) y])
 |_=>([],[])
theorem dQ {x y:Lin}(hx:x.s<n)(hy:y.s<n)(h:x.v ρ≤y.v ρ):aW n ρ [ak x y]:=aW.cons (aC.2 ⟨hx,hy,h⟩) .nil
theorem zeZ {a:ASt}{σ:St}{i:I}{op:BinOp}{k:IntKind}{x y:Lin}(hr:R T ρ a σ)(hx:x.s<a.nx)(hy:y.s<a.nx)(hop:Zj op=true)(hs:∀Γ b,jq op (.int k (x.v ρ)) (.int k (y.v ρ))=some b→au Γ σ i=some (.v b,σ.bx,fp0)):
  dB T ρ a σ i [(.b (zjb a.F op x y).1 (zjb a.F op x y).2,a,fp0)]:=by
 have hne:x.v ρ≠y.v ρ→aW a.nx ρ (if leL a.F x y then [ak (x.up 1) y] else if leL a.F y x then [ak (y.up 1) x] else []):=fun hne=>by
  split
  ·rename_i h;have:=aQ hr.F h;exact dQ hx hy (by rw [Lin.kZ];omega)
  ·split
   ·rename_i h;have:=aQ hr.F h;exact dQ hy hx (by rw [Lin.kZ];omega)
   ·exact .nil
 have heq:x.v ρ=y.v ρ→aW a.nx ρ [ak x y,ak y x]:=fun e=>aW.cons (aC.2 ⟨hx,hy,by omega⟩) (dQ hy hx (by omega))
 cases op<;>first
  |exact absurd hop (by decide)
  |skip
 ·refine .one hr (.b (fun h=>heq (eq_of_beq h)) (fun h=>hne (by simpa using h))) (fun Γ=>hs Γ _ (zfl ..))
 ·refine .one hr (.b (fun h=>hne (by simpa using h)) (fun h=>heq (by simpa using h))) (fun Γ=>hs Γ _ (zff ..))
 ·refine .one hr (.b (fun h=>dQ hx hy ?_) (fun h=>dQ hy hx ?_)) (fun Γ=>hs Γ _ (zfh ..))
  ·have:=of_decide_eq_true h;rw [Lin.kZ];omega
  ·have:=of_decide_eq_false h;omega
 ·refine .one hr (.b (fun h=>dQ hx hy ?_) (fun h=>dQ hy hx ?_)) (fun Γ=>hs Γ _ (zfi ..))
  ·exact of_decide_eq_true h
  ·have:=of_decide_eq_false h;rw [Lin.kZ];omega
 ·refine .one hr (.b (fun h=>dQ hy hx ?_) (fun h=>dQ hx hy ?_)) (fun Γ=>hs Γ _ (zfj ..))
  ·have:=of_decide_eq_true h;rw [Lin.kZ];omega
  ·have:=of_decide_eq_false h;omega
 ·refine .one hr (.b (fun h=>dQ hy hx ?_) (fun h=>dQ hx hy ?_)) (fun Γ=>hs Γ _ (zfk ..))
  ·exact of_decide_eq_true h
  ·have:=of_decide_eq_false h;rw [Lin.kZ];omega
end Go.Ab
namespace Go.Ab
open Go.Em
variable {T:Tab} {n:Nat} {ρ:Rho}
def contra (F:List Fact)(f:Fact):Bool:=leL F ⟨f.y,f.c+1⟩ ⟨f.x,0⟩
def newF (F fs:List Fact):List Fact:=fs.filter fun f=>!leL F ⟨f.x,0⟩ ⟨f.y,f.c⟩
def assume (a:ASt)(fs:List Fact):Option ASt:=if fs.any (contra a.F) then none else some {a with F:=newF a.F fs++a.F}
theorem ji {a:ASt}{σ:St}(hr:R T ρ a σ){fs:List Fact}(hf:aW a.nx ρ fs):∃a',assume a fs=some a'∧R T ρ a' σ∧a'.nx=a.nx:=by
 have h:fs.any (contra a.F)=false:=by
  cases hc:fs.any (contra a.F) with
  |false=>rfl
  |true=>
   obtain ⟨f,h1,h2⟩:=List.any_eq_true.1 hc
   have h3:=aQ hr.F h2
   have h4:=(hf f h1).2.2
   unfold Lin.v at h3
   dsimp only at h3
   omega
 unfold assume
 rw [if_neg (by rw [h];decide)]
 exact ⟨_,rfl,hr.zph (fun f hm=>hf f (List.mem_filter.1 hm).1),rfl⟩
def outOf (o:Option ASt)(y:AX):List Out:=match o with
 |some a=>[(y,a,fp0)]
 |none=>[]
theorem dB.left {a:ASt}{σ:St}{i:I}{l m:List Out}(h:dB T ρ a σ i l):dB T ρ a σ i (l++m):=by
 obtain ⟨o,ho,r⟩:=h
 exact ⟨o,List.mem_append_left _ ho,r⟩
theorem dB.right {a:ASt}{σ:St}{i:I}{l m:List Out}(h:dB T ρ a σ i m):dB T ρ a σ i (l++m):=by
 obtain ⟨o,ho,r⟩:=h
 exact ⟨o,List.mem_append_right _ ho,r⟩
theorem pX {a:ASt}{σ:St}{i:I}{fs:List Fact}{y:AX}{x:X}(hr:R T ρ a σ)(hf:aW a.nx ρ fs)(hg:G T a.nx ρ y x)(hs:∀Γ,au Γ σ i=some (x,σ.bx,fp0)):dB T ρ a σ i (outOf (assume a fs) y):=by
 obtain ⟨a',h1,h2,h3⟩:=ji hr hf
 rw [h1]
 have hm:More a.nx ρ a'.nx ρ:=⟨by omega,fun _ _=>rfl⟩
 exact ⟨_,List.mem_singleton.2 rfl,ρ,x,σ.bx,hm,h2,hg.more hm,hs⟩
def zgX (a:ASt):AX→AX→AX→Option (List Out)
 |.b tf ff,x,y=>some (outOf (assume a tf) x++outOf (assume a ff) y)
 |_,_,_=>none
def Yt:AX→Option Lin
 |.s l=>some l
 |.x (.v (.string bs))=>some (.k bs.size)
 |_=>none
theorem qM (h0:ρ 0=0)(hn:0<n){y:AX}{x:X}{l:Lin}(hg:G T n ρ y x)(h:Yt y=some l):∃bs:ByteArray,x=.v (.string bs)∧(bs.size:Int)=l.v ρ∧l.s<n:=by
 unfold Yt at h
 split at h
 ·cases h
  cases hg with
  |s h1 h2=>exact ⟨_,rfl,h2,h1⟩
 ·cases h
  cases hg
  exact ⟨_,rfl,(Lin.k_v h0 _).symm,hn⟩
 ·cases h
def zly (a:ASt)(x y:Lin):Option Out:=
 match SK x y with
 |some l=>if leL a.F l (.k 9223372036854775807) then some (.s l,a,fp0) else none
 |none=>match high a.F x,high a.F y with
  |some hx,some hy=>if leI (hx+hy) 9223372036854775807&&nonneg a.F x&&nonneg a.F y then
    some (zjS a ⟨a.nx,0⟩ [ak x ⟨a.nx,0⟩,ak y ⟨a.nx,0⟩,ak ⟨a.nx,0⟩ (x.up hy),ak ⟨a.nx,0⟩ (y.up hx)]) else none
  |_,_=>none
theorem zaD (x y:ByteArray):(x++y).size=x.size+y.size:=ByteArray.size_append
theorem ze6 {a:ASt}{σ:St}{i:I}{x y:Lin}{o:Out}{bx bz:ByteArray}(hr:R T ρ a σ)(hx:x.s<a.nx)(hy:y.s<a.nx)(h1:(bx.size:Int)=x.v ρ)(h2:(bz.size:Int)=y.v ρ)
  (hs:((bx.size+bz.size:Nat):Int)≤9223372036854775807→∀Γ,au Γ σ i=some (.v (.string (bx++bz)),σ.bx,fp0)) (h:zly a x y=some o):dB T ρ a σ i [o]:=by
 have hz:=zaD bx bz
 unfold zly at h
 split at h
 ·rename_i l e
  split at h
  ·rename_i hc
   cases h
   have c:=aQ hr.F hc
   rw [Lin.k_v hr.zero] at c
   have e2:=nR hr.zero e
   exact .one hr (.s (AP e hx hy) (by rw [hz];omega)) (hs (by omega))
  ·cases h
 ·split at h
  ·rename_i hx' hy' e1 e2
   split at h
   ·rename_i hc
    cases h
    simp only [Bool.and_eq_true,gB] at hc
    obtain ⟨⟨c1,c2⟩,c3⟩:=hc
    have b1:=iT hr.zero hr.F e1
    have b2:=iT hr.zero hr.F e2
    have hm:=eX ρ a.nx ((bx++bz).size:Int)
    have hq:=hr.more hm
    refine ⟨_,List.mem_singleton.2 rfl,upd ρ a.nx ((bx++bz).size:Int),_,σ.bx,hm,⟨hq.zero,hq.pos,aW.append ?_ hq.F,hq.tm,hq.bx⟩,.s (Nat.lt_succ_self _) cZ.symm,hs (by omega)⟩
    refine aW.cons ?_ (aW.cons ?_ (aW.cons ?_ (aW.cons ?_ .nil)))
    ·exact aC.2 ⟨Nat.lt_succ_of_lt hx,Nat.lt_succ_self _,by rw [cZ,hm.lin hx,hz];omega⟩
    ·exact aC.2 ⟨Nat.lt_succ_of_lt hy,Nat.lt_succ_self _,by rw [cZ,hm.lin hy,hz];omega⟩
    ·exact aC.2 ⟨Nat.lt_succ_self _,Nat.lt_succ_of_lt hx,by rw [Lin.kZ,cZ,hm.lin hx,hz];omega⟩
    ·exact aC.2 ⟨Nat.lt_succ_self _,Nat.lt_succ_of_lt hy,by rw [Lin.kZ,cZ,hm.lin hy,hz];omega⟩
   ·cases h
  ·cases h
def isAdd:BinOp→Bool
 |.add=>true
 |_=>false
def zlC (a:ASt)(op:BinOp)(k k':IntKind)(x y:Lin):Option (List Out):=
 match op with
 |.shl=>if nonneg a.F y then some [anyI a k] else none
 |.shr=>if nonneg a.F y then some [zjz a k x] else none
 |op=>if k=k' then
   match op with
   |.add=>some [zlU a k x y]
   |.sub=>some [ziF a k x y]
   |.mul=>some [zjT a k x y]
   |.quo=>if leL a.F (.k 1) y then some [zjJ a k x] else none
   |.rem=>if leL a.F (.k 1) y then some [zjF a k x y] else none
   |op=>if zbo op then some [anyI a k] else if Zj op then some [(.b (zjb a.F op x y).1 (zjb a.F op x y).2,a,fp0)] else none
  else none
def WU (op:BinOp)(l m:Lin):AX→AX
 |.x (.v (.string ⟨⟨[]⟩⟩))=>match op with
  |.eql=>.b [ak l (.k 0)] [ak (.k 1) l]
  |.neq=>.b [ak (.k 1) l] [ak l (.k 0)]
  |_=>.b [] []
 |_=>(fun _=>.b [] []) m
def zlB (a:ASt)(op:BinOp):AX→AX→Option (List Out)
 |.i k x,.i k' y=>zlC a op k k' x y
 |.x (.v (.string p)),.x (.v (.string q))=>match jq op (.string p) (.string q) with
  |some (.bool b)=>some [(cb b,a,fp0)]
  |some (.string r)=>some [(.x (.v (.string r)),a,fp0)]
  |_=>none
 |x,y=>match Yt x,Yt y with
  |some l,some m=>if Zj op then some [(WU op l m y,a,fp0)] else if isAdd op then (zly a l m).map fun o=>[o] else none
  |_,_=>none
theorem JC {x y:Int}(h:0≤x)(hy:1≤y):0≤x.tdiv y∧x.tdiv y≤x:=by
 rw [Int.tdiv_eq_ediv_of_nonneg h]
 exact ⟨Int.ediv_nonneg h (by omega),Int.ediv_le_self _ h⟩
theorem iy {a:ASt}{σ:St}(hr:R T ρ a σ){l:Lin}(h:nonneg a.F l=true):0≤l.v ρ:=by
 have:=aQ hr.F h
 rw [Lin.k_v hr.zero] at this;exact this
theorem zfr {a:ASt}{σ:St}{i:I}{op:BinOp}{k k':IntKind}{x y:Lin}{outs:List Out}(hr:R T ρ a σ)(hx:x.s<a.nx)(hy:y.s<a.nx)(hs:∀Γ b,jq op (.int k (x.v ρ)) (.int k' (y.v ρ))=some b→au Γ σ i=some (.v b,σ.bx,fp0))(h:zlC a op k k' x y=some outs):dB T ρ a σ i outs:=by
 unfold zlC at h
 split at h
 ·split at h
  ·rename_i hc
   cases h
   have:=iy hr hc
   exact kP hr (jL k _) (jM k _) (fun Γ=>hs Γ _ (zfc k k' _ _ (by omega)))
  ·cases h
 ·split at h
  ·rename_i hc
   cases h
   have:=iy hr hc
   exact zcf hr hx (fun Γ=>hs Γ _ (zfb k k' _ _ (by omega)))
  ·cases h
 ·split at h
  ·rename_i hk
   subst hk
   split at h
   ·cases h;exact zfC hr hx hy (fun Γ=>hs Γ _ (zfo ..))
   ·cases h;exact TR hr hx hy (fun Γ=>hs Γ _ (ze9 ..))
   ·cases h;exact zcW hr (fun Γ=>hs Γ _ (zfg ..))
   ·split at h
    ·rename_i hc
     cases h
     have c:=aQ hr.F hc
     rw [Lin.k_v hr.zero] at c
     exact zcC hr hx (fun h0=>JC h0 c) (fun Γ=>hs Γ _ (zfe _ _ _ (by omega)))
    ·cases h
   ·split at h
    ·rename_i hc
     cases h
     have c:=aQ hr.F hc
     rw [Lin.k_v hr.zero] at c
     exact zcA hr hx hy c (fun Γ=>hs Γ _ (zfd _ _ _ (by omega)))
    ·cases h
   ·split at h
    ·rename_i hb
     cases h
     obtain ⟨z,hz⟩:=zaJ k (x.v ρ) (y.v ρ) hb
     exact kP hr (jL k z) (jM k z) (fun Γ=>hs Γ _ hz)
    ·split at h
     ·rename_i hcmp
      cases h
      exact zeZ hr hx hy hcmp hs
     ·cases h
  ·cases h
theorem zfm (b:ByteArray)(op:BinOp)(t:Bool)(h:jq op (.string b) (.string ⟨⟨[]⟩⟩)=some (.bool t)):(op=.eql→t=decide (b.size=0))∧(op=.neq→t=!decide (b.size=0)):=by
 have key:(b.toList==(⟨⟨[]⟩⟩:ByteArray).toList)=decide (b.size=0):=by
  have e:b.toList=b.data.toList:=ByteArray.toList_eq b
  have e0:(⟨⟨[]⟩⟩:ByteArray).toList=[]:=ByteArray.toList_eq _
  rw [e,e0]
  obtain ⟨⟨l⟩⟩:=b
  cases l with
  |nil=>rfl
  |cons c r=>rw [decide_eq_false (by simp [ByteArray.size])];rfl
 constructor
 ·rintro rfl
  have h1:(Value.bool (b.toList==(⟨⟨[]⟩⟩:ByteArray).toList))=.bool t:=Option.some.inj h
  rw [key] at h1
  exact (Value.bool.inj h1).symm
 ·rintro rfl
  have h1:(Value.bool (!(b.toList==(⟨⟨[]⟩⟩:ByteArray).toList)))=.bool t:=Option.some.inj h
  rw [key] at h1
  exact (Value.bool.inj h1).symm
theorem WT {a:ASt}{σ:St}(hr:R T ρ a σ){op:BinOp}{l m:Lin}{z:AX}{b1 b2:ByteArray}(g2:G T a.nx ρ z (.v (.string b2)))(z1:(b1.size:Int)=l.v ρ)(l1:l.s<a.nx){t:Bool}(hb:jq op (.string b1) (.string b2)=some (.bool t)):G T a.nx ρ (WU op l m z) (.v (.bool t)):=by
 have triv:G T a.nx ρ (.b [] []) (.v (.bool t)):=.b (fun _=>.nil) (fun _=>.nil)
 unfold WU
 split
 ·cases g2 with
  |x _=>
   obtain ⟨k1,k2⟩:=zfm b1 op t hb
   have up:b1.size=0→aW a.nx ρ [ak l (.k 0)]:=fun h=>aW.cons (aC.2 ⟨l1,hr.pos,by rw [Lin.k_v hr.zero,←z1];omega⟩) .nil
   have lo:¬b1.size=0→aW a.nx ρ [ak (.k 1) l]:=fun h=>aW.cons (aC.2 ⟨hr.pos,l1,by rw [Lin.k_v hr.zero,←z1];omega⟩) .nil
   split
   ·have:=k1 rfl
    exact .b (fun ht=>up (by rw [ht] at this;exact of_decide_eq_true this.symm)) (fun ht=>lo (by rw [ht] at this;exact of_decide_eq_false this.symm))
   ·have:=k2 rfl
    exact .b (fun ht=>lo (by rw [ht] at this;simpa using this.symm)) (fun ht=>up (by rw [ht] at this;simpa using this.symm))
   ·exact triv
 ·exact triv
theorem zfp {a:ASt}{σ:St}{op:BinOp}{ox oy:Opd}{y z:AX}{p q:X}{outs:List Out}(hr:R T ρ a σ)(e1:σ.ev ox=some p)(e2:σ.ev oy=some q)(g1:G T a.nx ρ y p)(g2:G T a.nx ρ z q)(h:zlB a op y z=some outs):dB T ρ a σ (.bin op ox oy) outs:=by
 have hs:∀(u v w:Value),p=.v u→q=.v v→jq op u v=some w→∀Γ,au Γ σ (.bin op ox oy)=some (.v w,σ.bx,fp0):=fun u v w h1 h2 h3 Γ=>by
  subst h1;subst h2
  simp only [au,e1,e2,h3,Option.map_some];rfl
 unfold zlB at h
 split at h
 ·cases g1 with
  |i h1 h2=>
   cases g2 with
   |i h3 h4=>
    subst h2;subst h4
    exact zfr hr h1 h3 (fun Γ b hb=>hs _ _ b rfl rfl hb Γ) h
 ·cases g1
  cases g2
  split at h
  ·rename_i b hb
   cases h
   exact .one hr (xM b) (hs _ _ _ rfl rfl hb)
  ·rename_i r hb
   cases h
   exact .one hr (.x rfl) (hs _ _ _ rfl rfl hb)
  ·cases h
 ·split at h
  ·rename_i l m s1 s2
   obtain ⟨b1,rfl,z1,l1⟩:=qM hr.zero hr.pos g1 s1
   obtain ⟨b2,rfl,z2,l2⟩:=qM hr.zero hr.pos g2 s2
   split at h
   ·rename_i hc
    cases h
    obtain ⟨b,hb⟩:=zfa b1 b2 hc
    exact .one hr (WT hr g2 z1 l1 hb) (hs _ _ _ rfl rfl hb)
   ·split at h
    ·rename_i hadd
     obtain ⟨o,ho,rfl⟩:=Option.map_eq_some_iff.1 h
     have:op=.add:=by cases op<;>first|rfl|cases hadd
     subst this
     exact ze6 hr l1 l2 z1 z2 (fun hsz=>hs _ _ _ rfl rfl (zfn b1 b2 hsz)) ho
    ·cases h
  ·cases h
end Go.Ab
