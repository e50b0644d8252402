/-.-/
import Derived.Laws.AppendOwn
import Derived.Laws.Strings
import Derived.Test.YtpcjeobkehmhpaaGreatDoorEmU6
import Derived.Test.YtpcjeobkehmhpaaGreatDoorEmU7
import Derived.Test.YtpcjeobkehmhpaaGreatDoorEmU8
set_option linter.unusedSimpArgs false
set_option linter.unusedVariables false
namespace Go.Em
open Go.RowKit
variable {P:Program} {R:aT} {w w':World}
theorem jO (h:Below w.heap.size w w'):aK nowhere w w':=
 ⟨h.os,h.tape,h.output,h.size,fun b hb=>.inr (.inl (h.block b hb).symm)⟩
def intRow (zs:List Int):qaY:=zs.map fun z=>[.v (.int .i64 z)]
theorem zaJ {f:FuncId}{args:List X}{inb:List Bx}{el:TypeId}(zs:List Int)(h:∀(aQ:Array Value) (w:World) (K:Kn) (C:List CB),Inv P R K C inb w->dB K C args aQ->
  Calls P f aQ w fun e w'=>∃v',e=.returned v'/\w'.ownsRow w.heap.size el 1 v' zs.length (zs.map (Value.int .i64))/\Below w.heap.size w w'):Hr P R f args inb (.bs inb.length 0 zs.length) (inb++[.row 1 (intRow zs)]):=by
 intro K C w aQ hI ha;refine (h aQ w K C hI ha).mono ?_
 rintro e w' ⟨v',rfl,⟨hlen,hrow⟩,hB⟩
 have hf:=jO hB;have hI':=hI.still hf;have hl:(intRow zs).length=zs.length:=by simp [intRow]
 have hsz:=hI.size;have key:∀c:CB,BoxOk P R K (C++[c]) w' (.row 1 (intRow zs)) c->(∀b o,c.owns b o->w.heap.size<=b)->Rep K (C++[c]) (.bs inb.length 0 zs.length) v'->Post P R K C inb w (.bs inb.length 0 zs.length) (inb++[.row 1 (intRow zs)]) (.returned v') w':=by
  intro c hbox hown hres;refine ⟨v',K,[c],rfl,hI'.push hbox (fun b o ho=>?_) (fun b o ho ho'=>?_),hres,KLe.refl _,fun b o v e=>.inl e,fun b o ho=>?_,hf.mono (fun b o _ hs=>hs.elim),fun i B hB hl=>⟨B,?_,hl⟩⟩
  ·cases hk:K b o with
   |none=>rfl
   |some u=>have:=hI.wB hk;have:=hown b o ho;omega
  ·have:=hI.qU ho';have:=hown b o ho;omega
  ·rcases lq (by simpa using hsz) ho with ho|ho;·exact .inl ho
   exact .inr (hown b o ho)
  rw [qar (qak.1 hB).1];exact hB
 have hlast:∀c:CB,(C++[c])[inb.length]?=some c:=fun c=>by rw [<-hsz];simp
 rcases hrow with ⟨rfl,hn⟩|⟨g,cap,cur,rfl,hg,hc,hncap,hmax,hsize,htake⟩;·have:zs=[]:=qaM hn;subst this;exact key .ghost rfl (fun b o ho=>ho.elim) (.lQ (hlast _))
 refine key (.at g 0 cap 1) ⟨rfl,by rw [hl];omega,fun e he=>?_,cur,el,hc,by omega,fun i j x hx=>?_⟩ (fun b o ho=>by rw [ho.1];exact hg) ?_;·obtain ⟨z,_,rfl⟩:=qal.1 he;rfl
 ·have:j=0/\∃z,zs[i]?=some z/\x=.v (.int .i64 z):=by
   simp only [at2,intRow,qaw] at hx;cases hz:zs[i]? with
   |none=>rw [hz] at hx;simp at hx
   |some z=>
    rw [hz] at hx;simp only [qao,Option.bind_some] at hx;cases j with
    |zero=>simp at hx;exact ⟨rfl,z,rfl,hx.symm⟩
    |succ j=>simp at hx
  obtain ⟨rfl,z,hz,rfl⟩:=this;refine ⟨rfl,.int .i64 z,?_,.v rfl⟩;have hi:i<zs.length:=(qak.1 hz).1;have h1:(cur.toList.take (zs.length*1))[i]?=some (.int .i64 z):=by rw [htake,qaw,hz];rfl
  rw [qay] at h1;rw [if_pos (by omega)] at h1;have h2:cur[i]?=some (.int .i64 z):=by rw [<-Array.getElem?_toList];exact h1
  simpa using h2
 have:=@Rep.bs K (C++[.at g 0 cap 1]) inb.length 0 zs.length g 0 cap 1 cap (hlast _) (by omega) hncap;simpa using this
end Go.Em
namespace Go.Em
open Go.RowKit
variable {P:Program} {R:aT} {w w':World}
theorem znA {f:FuncId}{args:List X}{inb:List Bx}{el:TypeId}{k:Nat}{aQ:Array Value}{K:Kn}{C:List CB}(hI:Inv P R K C inb w)
  (h:Calls P f aQ w fun e w'=>∃v',e=.returned v'/\w'.ownsRow w.heap.size el k v' 0 []/\Below w.heap.size w w'):Calls P f aQ w (Post P R K C inb w (.bs inb.length 0 0) (inb++[.row k []])):=by
 refine h.mono ?_
 rintro e w' ⟨v',rfl,⟨hlen,hrow⟩,hB⟩
 have hf:=jO hB;have hI':=hI.still hf;have hsz:=hI.size;have key:∀c:CB,BoxOk P R K (C++[c]) w' (.row k []) c->(∀b o,c.owns b o->w.heap.size<=b)->Rep K (C++[c]) (.bs inb.length 0 0) v'->Post P R K C inb w (.bs inb.length 0 0) (inb++[.row k []]) (.returned v') w':=by
  intro c hbox hown hres;refine ⟨v',K,[c],rfl,hI'.push hbox (fun b o ho=>?_) (fun b o ho ho'=>?_),hres,KLe.refl _,fun b o v e=>.inl e,fun b o ho=>?_,hf.mono (fun b o _ hs=>hs.elim),fun i B hB hl=>⟨B,?_,hl⟩⟩
  ·cases hk:K b o with
   |none=>rfl
   |some u=>have:=hI.wB hk;have:=hown b o ho;omega
  ·have:=hI.qU ho';have:=hown b o ho;omega
  ·rcases lq (by simpa using hsz) ho with ho|ho;·exact .inl ho
   exact .inr (hown b o ho)
  rw [qar (qak.1 hB).1];exact hB
 have hlast:∀c:CB,(C++[c])[inb.length]?=some c:=fun c=>by rw [<-hsz];simp
 rcases hrow with ⟨rfl,hn⟩|⟨g,cap,cur,rfl,hg,hc,hncap,hmax,hsize,htake⟩;·exact key .ghost rfl (fun b o ho=>ho.elim) (.lQ (hlast _))
 refine key (.at g 0 (cap*k) k) ⟨rfl,by simp,fun e he=>by simp at he,cur,el,hc,by omega,fun i j x hx=>by simp [at2] at hx⟩ (fun b o ho=>by rw [ho.1];exact hg) ?_;have:=@Rep.bs K (C++[.at g 0 (cap*k) k]) inb.length 0 0 g 0 (cap*k) k cap (hlast _) (by simp) hncap;simpa using this
end Go.Em
namespace Go.Ab
open Go.Em
variable {h z:Int}{cs:List X}{j n n':Nat}{P:Nat->List X->Prop}{x:X}
structure Lin where
 s:Nat
 c:Int
 deriving Inhabited,DecidableEq
variable {a b:Lin}
abbrev Rho:=Nat->Int
variable {ρ ρ':Rho}
def Lin.v (l:Lin)(ρ:Rho):Int:=ρ l.s+l.c
def Lin.k (c:Int):Lin:=⟨0,c⟩
def Lin.up (l:Lin)(d:Int):Lin:=⟨l.s,l.c+d⟩
structure Fact where
 x:Nat
 y:Nat
 c:Int
 deriving Inhabited,DecidableEq
variable {F:List Fact}
def Fact.ok (n:Nat)(ρ:Rho)(f:Fact):Prop:=f.x<n/\f.y<n/\ρ f.x<=ρ f.y+f.c
def aX (n:Nat)(ρ:Rho)(F:List Fact):Prop:=∀f,f∈F->f.ok n ρ
theorem Lin.mQ (l:Lin)(d:Int)(ρ:Rho):(l.up d).v ρ=l.v ρ+d:=by grind[Lin.up,Lin.v]
theorem Lin.k_v (h:ρ 0=0)(c:Int):(Lin.k c).v ρ=c:=by grind[Lin.k,Lin.v]
def leI:Int->Int->Bool
 |.ofNat a,.ofNat b=>Nat.ble a b
 |.ofNat _,.negSucc _=>false
 |.negSucc _,.ofNat _=>true
 |.negSucc a,.negSucc b=>Nat.ble b a
theorem jE {a b:Int}:leI a b=true↔a<=b:=by
 cases a<;>cases b<;>simp only [leI,Nat.ble_eq,qaq,qaQ,false_iff,true_iff]<;>omega
def zlV:List (Nat×Int)->Nat->Option Int
 |[],_=>none
 |(k,d)::r,n=>if Nat.beq k n then some d else zlV r n
def znW:List (Nat×Int)->Nat->Int->List (Nat×Int)
 |[],n,d=>[(n,d)]
 |(k,e)::r,n,d=>if Nat.beq k n then (if leI e d then (k,e)::r else (k,d)::r) else (k,e)::znW r n d
def relax:List Fact->List (Nat×Int)->List (Nat×Int)
 |[],ds=>ds
 |f::F,ds=>match zlV ds f.x with
  |some d=>relax F (znW ds f.y (d+f.c))
  |none=>relax F ds
def rounds:Nat->List Fact->List (Nat×Int)->List (Nat×Int)
 |0,_,ds=>ds
 |k+1,F,ds=>rounds k F (relax F ds)
def leL (F:List Fact)(a b:Lin):Bool:=
 if Nat.beq a.s b.s&&leI a.c b.c then true
 else match F.filter (fun f=>Nat.beq f.x a.s) with
  |[]=>false
  |Fa=>match F.filter (fun f=>Nat.beq f.y b.s) with
   |[]=>false
   |Fb=>Fa.any fun f=>(Nat.beq f.y b.s&&leI (a.c+f.c) b.c)||
     Fb.any fun h=>(Nat.beq f.y h.x&&leI (a.c+f.c+h.c) b.c)||F.any fun g=>Nat.beq g.x f.y&&(Nat.beq g.y h.x&&leI (a.c+f.c+g.c+h.c) b.c)
def zgr (ρ:Rho)(a:Nat)(ds:List (Nat×Int)):Prop:=∀p,p∈ds->ρ a<=ρ p.1+p.2
theorem Aj:∀{ds:List (Nat×Int)} {n:Nat} {d:Int},zlV ds n=some d->(n,d)∈ds
 |(k,e)::r,n,d,h=>by
  unfold zlV at h;split at h;·simp_all
  exact qam _ (Aj h)
theorem za9 {ρ:Rho}{a:Nat}:∀{ds:List (Nat×Int)} {n:Nat} {d:Int},zgr ρ a ds->ρ a<=ρ n+d->zgr ρ a (znW ds n d)
 |[],n,d,_,h=>fun p hp=>by grind[znW]
 |(k,e)::r,n,d,hd,h=>by
  unfold znW;split
  ·rename_i hk;obtain rfl:=qai hk;split
   ·grind
   intro p hp;rcases qaj.1 hp with rfl|hp;·exact h
   exact hd p (qam _ hp)
  intro p hp;rcases qaj.1 hp with rfl|hp;·exact hd _ (qap ..)
  exact za9 (fun q hq=>hd q (qam _ hq)) h p hp
theorem IW {ρ:Rho}{a n:Nat}:∀{F:List Fact} {ds:List (Nat×Int)},aX n ρ F->zgr ρ a ds->zgr ρ a (relax F ds)
 |[],_,_,hd=>hd
 |f::F,ds,hF,hd=>by
  have hF':aX n ρ F:=fun g hg=>hF g (qam _ hg);unfold relax;split;next d hg=>have h1:=hd _ (Aj hg);have h2:=(hF f (qap ..)).2.2;exact IW hF' (za9 hd (by grind))
  exact IW hF' hd
theorem BA {ρ:Rho}{a n:Nat}{F:List Fact}(hF:aX n ρ F):∀(k:Nat) {ds:List (Nat×Int)},zgr ρ a ds->zgr ρ a (rounds k F ds)
 |0,_,hd=>hd
 |k+1,_,hd=>by unfold rounds;exact BA hF k (IW hF hd)
theorem aU (hF:aX n ρ F)(h:leL F a b=true):a.v ρ<=b.v ρ:=by
 unfold leL at h;unfold Lin.v;split at h;·simp_all[jE]
 split at h;·cases h
 split at h;·cases h
 obtain ⟨f,hf,h1⟩:=List.any_eq_true.1 h;rw [List.mem_filter] at hf;have f1:=(hF f hf.1).2.2;rw [qai hf.2] at f1;rw [Bool.or_eq_true] at h1;rcases h1 with h1|h1
 ·rw [qab] at h1
  grind[qai,jE]
 obtain ⟨g,hg,h2⟩:=List.any_eq_true.1 h1;rw [List.mem_filter] at hg;have g1:=(hF g hg.1).2.2;rw [qai hg.2] at g1;rw [Bool.or_eq_true] at h2;rcases h2 with h2|h2
 ·rw [qab] at h2
  grind[qai,jE]
 obtain ⟨k,hk,h3⟩:=List.any_eq_true.1 h2;simp only [qab] at h3;have k1:=(hF k hk).2.2<;>grind[qai,jE]
def eqL (F:List Fact)(a b:Lin):Bool:=leL F a b&&leL F b a
theorem Nr (hF:aX n ρ F)(h:eqL F a b=true):a.v ρ=b.v ρ:=by unfold eqL at h;rw [qab] at h;have h1:=aU hF h.1;have h2:=aU hF h.2;omega
def aj (a b:Lin):Fact:=⟨a.s,b.s,b.c-a.c⟩
theorem aJ :(aj a b).ok n ρ↔a.s<n/\b.s<n/\a.v ρ<=b.v ρ:=by grind[Fact.ok,aj,Lin.v]
inductive ET where
 |i (k:IntKind) (lo hi:Option Int)
 |b
 |s (lo hi:Nat)
 |sl (sz k lo hi:Nat)
 |z
 |tX
 deriving Inhabited
variable {t:ET}
abbrev Tab:=Nat->List (List ET)
variable {T:Tab}
def Ap (P:Nat->List X->Prop):ET->X->Prop
 |.i k lo hi,.v (.int k' z)=>k'=k/\(∀a,lo=some a->a<=z)/\(∀b,hi=some b->z<=b)
 |.b,.v (.bool _)=>True
 |.s lo hi,.v (.string bs)=>lo<=bs.size/\bs.size<=hi
 |.sl sz k lo hi,.sl _ sz' es=>sz'=sz/\lo<=es.length/\es.length<=hi/\∀e,e∈es->P k e
 |.z,.v .nilFunc=>True
 |.tX,x=>x=.ifc\/x=.v .nilIface
 |_,_=>False
def ETs (P:Nat->List X->Prop):List ET->List X->Prop
 |[],[]=>True
 |t::ts,x::xs=>Ap P t x/\ETs P ts xs
 |_,_=>False
def DN (T:Tab):Nat->Nat->List X->Prop
 |0,_,_=>False
 |h+1,k,cs=>∃alt,alt∈T k/\ETs (DN T h) alt cs
def D (T:Tab)(h:Int)(k:Nat)(cs:List X):Prop:=DN T h.toNat k cs
theorem zbO {Q:Nat->List X->Prop}(h:∀k e,P k e->Q k e)(hx:Ap P t x):Ap Q t x:=by unfold Ap at hx ⊢<;>grind
theorem Ue {P Q:Nat->List X->Prop}(h:∀k e,P k e->Q k e):∀{ts:List ET} {xs:List X},ETs P ts xs->ETs Q ts xs
 |[],[],_=>trivial
 |_::_,_::_,hx=>⟨zbO h hx.1,Ue h hx.2⟩
theorem zbQ {T:Tab}:∀{h k:Nat} {cs:List X},DN T h k cs->DN T (h+1) k cs
 |0,_,_,hd=>hd.elim
 |_+1,_,_,⟨alt,ha,hs⟩=>⟨alt,ha,Ue (fun _ _ hd=>zbQ hd) hs⟩
theorem zlw {h h' k:Nat}(hh:h<=h')(hd:DN T h k cs):DN T h' k cs:=by
 induction hh with
 |refl=>grind
 |step _ ih=>grind[zbQ]
theorem fU {h':Int}{k:Nat}(hh:h<=h')(hd:D T h k cs):D T h' k cs:=zlw (by omega) hd
theorem lT {k:Nat}(hd:D T h k cs):1<=h/\∃alt,alt∈T k/\ETs (D T (h-1)) alt cs:=by
 unfold D at hd;cases hn:h.toNat with
 |zero=>rw [hn] at hd;exact hd.elim
 |succ m=>
  rw [hn] at hd;obtain ⟨alt,ha,hs⟩:=hd;have:m=(h-1).toNat:=by omega
  subst this;exact ⟨by omega,alt,ha,hs⟩
theorem dH {k:Nat}{alt:List ET}(hh:1<=h)(ha:alt∈T k)(hs:ETs (D T (h-1)) alt cs):D T h k cs:=by
 unfold D;obtain ⟨m,hm⟩:∃m,h.toNat=m+1:=⟨h.toNat-1,by omega⟩;rw [hm];have:m=(h-1).toNat:=by omega
 subst this;exact ⟨alt,ha,hs⟩
theorem zbN (hx:Ap P t x):x.refs=[]:=by
 unfold Ap at hx;split at hx<;>first
  |rfl
  |(rcases hx with rfl|rfl<;>rfl)
  |exact hx.elim
theorem Ud {P:Nat->List X->Prop}:∀{ts:List ET} {xs:List X},ETs P ts xs->bZ xs=[]
 |[],[],_=>rfl
 |t::ts,x::xs,h=>by show x.refs++bZ xs=[];rw [zbN h.1,Ud h.2];rfl
theorem qw {k:Nat}(hd:D T h k cs):bZ cs=[]:=by obtain ⟨_,_,_,hs⟩:=lT hd<;>grind[Ud]
def zfL (k j:Nat):Bool:=(Nat.beq k 1&&Nat.beq j 21)||(Nat.beq k 2&&Nat.beq j 22)
def zmg:List (Nat×Nat):=[(1,21),(2,22)]
def oIn (lo lo':Option Int):Bool:=match lo' with
 |none=>true
 |some b=>match lo with
  |none=>false
  |some a=>decide (a=b)
def zpd:ET->ET->Bool
 |.i k lo hi,.i k' lo' hi'=>decide (k=k')&&oIn lo lo'&&oIn hi hi'
 |.b,.b=>true
 |.s lo hi,.s lo' hi'=>Nat.ble lo' lo&&Nat.ble hi hi'
 |.sl sz k lo hi,.sl sz' k' lo' hi'=>Nat.beq sz sz'&&(Nat.beq k k'||zfL k k')&&Nat.ble lo' lo&&Nat.ble hi hi'
 |.z,.z=>true
 |.tX,.tX=>true
 |_,_=>false
def zeQ:List ET->List ET->Bool
 |[],[]=>true
 |a::l,y::r=>zpd a y&&zeQ l r
 |_,_=>false
def zfK (T:Tab):Bool:=zmg.all fun p=>(T p.1).all fun a=>(T p.2).any fun b=>zeQ a b
def kle (T:Tab)(k j:Nat):Bool:=Nat.beq k j||(zfL k j&&zfK T)
theorem znb {lo lo':Option Int}(h:oIn lo lo'=true)(hz:∀a,lo=some a->a<=z):∀a,lo'=some a->a<=z:=by
 intro a e;subst e;cases lo with
 |none=>cases h
 |some b=>
  have h:decide (b=a)=true:=h
  grind
theorem znc {hi hi':Option Int}(h:oIn hi hi'=true)(hz:∀b,hi=some b->z<=b):∀b,hi'=some b->z<=b:=by
 intro a e;subst e;cases hi with
 |none=>cases h
 |some b=>
  have h:decide (b=a)=true:=h
  grind
theorem zko (hP:∀k j e,zfL k j=true->P k e->P j e){u:ET}(h:zpd t u=true)(hx:Ap P t x):Ap P u x:=by
 unfold zpd at h;split at h;·simp at h;obtain ⟨⟨rfl,h1⟩,h2⟩:=h;unfold Ap at hx<;>grind[Ap,znb,znc]
 ·grind
 ·simp only [qab] at h;obtain ⟨h1,h2⟩:=h;have h1:=Nat.le_of_ble_eq_true h1;have h2:=Nat.le_of_ble_eq_true h2;unfold Ap at hx<;>grind[Ap]
 ·simp only [qab,Bool.or_eq_true] at h;obtain ⟨⟨⟨h1,h4⟩,h2⟩,h3⟩:=h;have h1:=qai h1;have h2:=Nat.le_of_ble_eq_true h2;have h3:=Nat.le_of_ble_eq_true h3;subst h1;unfold Ap at hx<;>grind[Ap,qai]
 ·grind
 ·grind
 grind
theorem TD {P:Nat->List X->Prop}(hP:∀k j e,zfL k j=true->P k e->P j e):∀{t u:List ET} {x:List X},zeQ t u=true->ETs P t x->ETs P u x
 |[],[],[],_,_=>trivial
 |a::l,y::r,x::xs,h,hx=>by have h:(zpd a y&&zeQ l r)=true:=h;rw [qab] at h;exact ⟨zko hP h.1 hx.1,TD hP h.2 hx.2⟩
theorem zcJ {k:Nat}(h:zfL k j=true):(k,j)∈zmg:=by
 unfold zfL at h;simp only [Bool.or_eq_true,qab] at h;rcases h with ⟨h1,h2⟩|⟨h1,h2⟩;·rw [qai h1,qai h2];exact qap ..
 rw [qai h1,qai h2];exact qam _ (qap ..)
theorem zgs {T:Tab}(hT:zfK T=true):∀(h k j:Nat) (cs:List X),zfL k j=true->DN T h k cs->DN T h j cs
 |0,_,_,_,_,hd=>hd.elim
 |h+1,k,j,cs,hk,⟨alt,ha,hs⟩=>by have h1:=qas.1 (qas.1 hT (k,j) (zcJ hk)) alt ha;obtain ⟨b,hb,hl⟩:=List.any_eq_true.1 h1;exact ⟨b,hb,TD (fun k j e hk he=>zgs hT h k j e hk he) hl hs⟩
theorem znj {k:Nat}(hk:kle T k j=true)(hd:D T h k cs):D T h j cs:=by
 unfold kle at hk;rw [Bool.or_eq_true,qab] at hk;rcases hk with hk|⟨h1,h2⟩;·simp_all
 exact zgs h2 _ _ _ _ h1 hd
def SOk (T:Tab)(S:Nat->Nat->Bool):Prop:=∀{k j:Nat},S k j=true->∀{h:Int} {cs:List X},D T h k cs->D T h j cs
theorem sok (T:Tab):SOk T (kle T):=fun hk _ _ hd=>znj hk hd
inductive AX where
 |i (k:IntKind) (l:Lin)
 |b (tf ff:List Fact)
 |s (l:Lin)
 |x (x:X)
 |sl (t:Option Bool) (sz k:Nat) (h n:Lin)
 |bs (i:Nat) (o n:Lin)
 |ptr (i:Nat) (e:Lin) (o:Nat)
 |dp (cs:List AX)
 |fn (f:FuncId) (cs:List AX)
 |agg (cs:List AX)
 |tup (cs:List AX)
 |yl (i:Nat)
 |mp (i:Nat)
 |tX
 |el (k:Nat) (h:Lin)
 |de (k:Nat) (h:Lin)
 deriving Inhabited
def Dt:Option Bool->Bool->Prop
 |none,_=>True
 |some b,c=>c=b
mutual
inductive G (T:Tab) (n:Nat) (ρ:Rho):AX->X->Prop where
 |i {k:IntKind} {l:Lin} {z:Int}:l.s<n->z=l.v ρ->G T n ρ (.i k l) (.v (.int k z))
 |b {tf ff:List Fact} {t:Bool}:(t=true->aX n ρ tf)->(t=false->aX n ρ ff)->G T n ρ (.b tf ff) (.v (.bool t))
 |s {l:Lin} {bs:qaZ}:l.s<n->(bs.size:Int)=l.v ρ->G T n ρ (.s l) (.v (.string bs))
 |x {x:X}:x.refs=[]->G T n ρ (.x x) x
 |sl {t:Option Bool} {sz k:Nat} {h l:Lin} {tt:Bool} {es:qaY}:h.s<n->l.s<n->Dt t tt->(es.length:Int)=l.v ρ->(∀e,e∈es->D T (h.v ρ) k e)->G T n ρ (.sl t sz k h l) (.sl tt sz es)
 |bs {i:Nat} {o l:Lin} {o' l':Nat}:o.s<n->l.s<n->(o':Int)=o.v ρ->(l':Int)=l.v ρ->G T n ρ (.bs i o l) (.bs i o' l')
 |ptr {i:Nat} {e:Lin} {o e':Nat}:e.s<n->(e':Int)=e.v ρ->G T n ρ (.ptr i e o) (.ptr i e' o)
 |dp {cs:List AX} {xs:List X}:GL T n ρ cs xs->G T n ρ (.dp cs) (.dp xs)
 |fn {f:FuncId} {cs:List AX} {xs:List X}:GL T n ρ cs xs->G T n ρ (.fn f cs) (.fn f xs)
 |agg {cs:List AX} {xs:List X}:GL T n ρ cs xs->G T n ρ (.agg cs) (.agg xs)
 |tup {cs:List AX} {xs:List X}:GL T n ρ cs xs->G T n ρ (.tup cs) (.tup xs)
 |yl {i:Nat}:G T n ρ (.yl i) (.yl i)
 |mp {i:Nat}:G T n ρ (.mp i) (.mp i)
 |ifc:G T n ρ .tX .ifc
 |Gl:G T n ρ .tX (.v .nilIface)
 |el {k:Nat} {h:Lin} {xs:List X}:h.s<n->D T (h.v ρ) k xs->G T n ρ (.el k h) (.agg xs)
 |de {k:Nat} {h:Lin} {xs:List X}:h.s<n->D T (h.v ρ) k xs->G T n ρ (.de k h) (.dp xs)
inductive GL (T:Tab) (n:Nat) (ρ:Rho):List AX->List X->Prop where
 |nil:GL T n ρ [] []
 |cons {a:AX} {x:X} {l:List AX} {m:List X}:G T n ρ a x->GL T n ρ l m->GL T n ρ (a::l) (x::m)
end
structure More (n:Nat) (ρ:Rho) (n':Nat) (ρ':Rho):Prop where
 le:n<=n'
 same:∀s,s<n->ρ' s=ρ s
theorem More.refl (n:Nat)(ρ:Rho):More n ρ n ρ:=⟨Nat.le_refl _,fun _ _=>rfl⟩
theorem More.trans {n'':Nat}{zsD:Rho}(h:More n ρ n' ρ')(h':More n' ρ' n'' zsD):More n ρ n'' zsD:=
 ⟨Nat.le_trans h.le h'.le,fun s hs=>by rw [h'.same s (Nat.lt_of_lt_of_le hs h.le),h.same s hs]⟩
theorem More.lin (h:More n ρ n' ρ'){l:Lin}(hl:l.s<n):l.v ρ'=l.v ρ:=by unfold Lin.v;rw [h.same _ hl]
theorem More.lt (h:More n ρ n' ρ'){s:Nat}(hs:s<n):s<n':=Nat.lt_of_lt_of_le hs h.le
theorem More.fact (h:More n ρ n' ρ'){f:Fact}(hf:f.ok n ρ):f.ok n' ρ':=
 ⟨h.lt hf.1,h.lt hf.2.1,by rw [h.same _ hf.1,h.same _ hf.2.1];exact hf.2.2⟩
theorem More.facts (h:More n ρ n' ρ')(hf:aX n ρ F):aX n' ρ' F:=fun f hm=>h.fact (hf f hm)
mutual
theorem G.more {T:Tab}{n n':Nat}{ρ ρ':Rho}(h:More n ρ n' ρ'):∀{a:AX} {x:X},G T n ρ a x->G T n' ρ' a x
 |_,_,.i h1 h2=>.i (h.lt h1) (by rw [h.lin h1]<;>grind)
 |_,_,.b h1 h2=>.b (fun e=>h.facts (h1 e)) (fun e=>h.facts (h2 e))
 |_,_,.s h1 h2=>.s (h.lt h1) (by rw [h.lin h1]<;>grind)
 |_,_,.x h1=>.x h1
 |_,_,.sl h1 h2 h3 h4 h5=>.sl (h.lt h1) (h.lt h2) h3 (by rw [h.lin h2]<;>grind) (by rw [h.lin h1]<;>grind)
 |_,_,.bs h1 h2 h3 h4=>.bs (h.lt h1) (h.lt h2) (by rw [h.lin h1]<;>grind) (by rw [h.lin h2]<;>grind)
 |_,_,.ptr h1 h2=>.ptr (h.lt h1) (by rw [h.lin h1]<;>grind)
 |_,_,.dp h1=>.dp (GL.more h h1)
 |_,_,.fn h1=>.fn (GL.more h h1)
 |_,_,.agg h1=>.agg (GL.more h h1)
 |_,_,.tup h1=>.tup (GL.more h h1)
 |_,_,.yl=>.yl
 |_,_,.mp=>.mp
 |_,_,.ifc=>.ifc
 |_,_,.Gl=>.Gl
 |_,_,.el h1 h2=>.el (h.lt h1) (by rw [h.lin h1]<;>grind)
 |_,_,.de h1 h2=>.de (h.lt h1) (by rw [h.lin h1]<;>grind)
theorem GL.more {T:Tab}{n n':Nat}{ρ ρ':Rho}(h:More n ρ n' ρ'):∀{a:List AX} {x:List X},GL T n ρ a x->GL T n' ρ' a x
 |_,_,.nil=>.nil
 |_,_,.cons h1 h2=>.cons (G.more h h1) (GL.more h h2)
end
inductive ABx where
 |var (cs:List AX)
 |row (sz k:Nat) (h n:Lin)
 |loop (st:LoopState) (pend:Option Ex) (tm:List (Nat×AX)) (ps:List Nat) (assign body:C)
 |map (es:List (Value×AX))
 |dead
 |el (k:Nat) (h:Lin)
 deriving Inhabited
inductive GT (T:Tab) (n:Nat) (ρ:Rho):List (Nat×AX)->List (Nat×X)->Prop where
 |nil:GT T n ρ [] []
 |cons {k:Nat} {a:AX} {x:X} {l:List (Nat×AX)} {m:List (Nat×X)}:G T n ρ a x->GT T n ρ l m->GT T n ρ ((k,a)::l) ((k,x)::m)
inductive GM (T:Tab) (n:Nat) (ρ:Rho):List (Value×AX)->List (Value×X)->Prop where
 |nil:GM T n ρ [] []
 |cons {k:Value} {a:AX} {x:X} {l:List (Value×AX)} {m:List (Value×X)}:G T n ρ a x->GM T n ρ l m->GM T n ρ ((k,a)::l) ((k,x)::m)
inductive GB (T:Tab) (n:Nat) (ρ:Rho):ABx->Bx->Prop where
 |var {cs:List AX} {xs:List X}:GL T n ρ cs xs->GB T n ρ (.var cs) (.var xs)
 |row {sz k:Nat} {h l:Lin} {es:qaY}:h.s<n->l.s<n->(es.length:Int)=l.v ρ->(∀e,e∈es->D T (h.v ρ) k e)->GB T n ρ (.row sz k h l) (.row sz es)
 |loop {st:LoopState} {pend:Option Ex} {tm:List (Nat×AX)} {tm':List (Nat×X)} {ps:List Nat} {a b:C}:GT T n ρ tm tm'->GB T n ρ (.loop st pend tm ps a b) (.loop st pend tm' ps a b)
 |map {es:List (Value×AX)} {es':List (Value×X)}:GM T n ρ es es'->GB T n ρ (.map es) (.map es')
 |dead:GB T n ρ .dead .dead
 |el {k:Nat} {h:Lin} {xs:List X}:h.s<n->D T (h.v ρ) k xs->GB T n ρ (.el k h) (.var xs)
inductive GBs (T:Tab) (n:Nat) (ρ:Rho):List ABx->List Bx->Prop where
 |nil:GBs T n ρ [] []
 |cons {a:ABx} {x:Bx} {l:List ABx} {m:List Bx}:GB T n ρ a x->GBs T n ρ l m->GBs T n ρ (a::l) (x::m)
structure ASt where
 nx:Nat
 F:List Fact
 tm:List (Nat×AX)
 bx:List ABx
 deriving Inhabited
structure R (T:Tab) (ρ:Rho) (a:ASt) (σ:St):Prop where
 zero:ρ 0=0
 pos:0<a.nx
 F:aX a.nx ρ a.F
 tm:GT T a.nx ρ a.tm σ.tm
 bx:GBs T a.nx ρ a.bx σ.bx
theorem GT.more (h:More n ρ n' ρ'):∀{a:List (Nat×AX)} {x:List (Nat×X)},GT T n ρ a x->GT T n' ρ' a x
 |_,_,.nil=>.nil
 |_,_,.cons h1 h2=>.cons (h1.more h) (h2.more h)
theorem GM.more (h:More n ρ n' ρ'):∀{a:List (Value×AX)} {x:List (Value×X)},GM T n ρ a x->GM T n' ρ' a x
 |_,_,.nil=>.nil
 |_,_,.cons h1 h2=>.cons (h1.more h) (h2.more h)
theorem GB.more (h:More n ρ n' ρ'):∀{a:ABx} {x:Bx},GB T n ρ a x->GB T n' ρ' a x
 |_,_,.var h1=>.var (h1.more h)
 |_,_,.row h1 h2 h3 h4=>.row (h.lt h1) (h.lt h2) (by rw [h.lin h2]<;>grind) (by rw [h.lin h1]<;>grind)
 |_,_,.loop h1=>.loop (h1.more h)
 |_,_,.map h1=>.map (h1.more h)
 |_,_,.dead=>.dead
 |_,_,.el h1 h2=>.el (h.lt h1) (by rw [h.lin h1]<;>grind)
theorem GBs.more (h:More n ρ n' ρ'):∀{a:List ABx} {x:List Bx},GBs T n ρ a x->GBs T n' ρ' a x
 |_,_,.nil=>.nil
 |_,_,.cons h1 h2=>.cons (h1.more h) (h2.more h)
end Go.Ab
namespace Go.Ab
open Go.Em
variable {l:List ABx}{m:List Bx}
variable {T:Tab} {n:Nat} {ρ:Rho}
theorem GL.len:∀{l:List AX} {m:List X},GL T n ρ l m->l.length=m.length
 |_,_,.nil=>rfl
 |_,_,.cons _ h=>by rw [qaz,qaz,h.len]
theorem GL.get {l:List AX}{m:List X}(h:GL T n ρ l m):∀{i:Nat} {a:AX},l[i]?=some a->∃x,m[i]?=some x/\G T n ρ a x:=by
 induction h using GL.rec (motive_1:=fun _ _ _=>True) with
 |nil=>grind
 |cons h1 h2 _ ih=>grind
 |_=>trivial
theorem GL.drop:∀{l:List AX} {m:List X} (k:Nat),GL T n ρ l m->GL T n ρ (l.drop k) (m.drop k)
 |_,_,0,h=>h
 |_,_,_+1,.nil=>.nil
 |_,_,k+1,.cons _ h=>h.drop k
theorem GL.take:∀{l:List AX} {m:List X} (k:Nat),GL T n ρ l m->GL T n ρ (l.take k) (m.take k)
 |_,_,0,_=>.nil
 |_,_,_+1,.nil=>.nil
 |_,_,k+1,.cons h1 h=>.cons h1 (h.take k)
theorem GL.append:∀{l l':List AX} {m m':List X},GL T n ρ l m->GL T n ρ l' m'->GL T n ρ (l++l') (m++m')
 |_,_,_,_,.nil,h=>h
 |_,_,_,_,.cons h1 h,h'=>.cons h1 (h.append h')
theorem GL.one {a:AX}{x:X}(h:G T n ρ a x):GL T n ρ [a] [x]:=.cons h .nil
mutual
def AX.refs:AX->List Nat
 |.bs i _ _|.ptr i _ _|.yl i|.mp i=>[i]
 |.fn _ cs=>qx cs
 |.agg cs=>qx cs
 |.tup cs=>qx cs
 |.i _ _|.b _ _|.s _|.x _|.sl _ _ _ _ _|.dp _|.tX|.el _ _|.de _ _=>[]
def qx:List AX->List Nat
 |[]=>[]
 |x::r=>x.refs++qx r
end
mutual
theorem G.refs:∀{a:AX} {x:X},G T n ρ a x->x.refs=a.refs
 |_,_,.i _ _=>rfl
 |_,_,.b _ _=>rfl
 |_,_,.s _ _=>rfl
 |_,_,.x h=>h
 |_,_,.sl _ _ _ _ _=>rfl
 |_,_,.bs _ _ _ _=>rfl
 |_,_,.ptr _ _=>rfl
 |_,_,.dp _=>rfl
 |_,_,.fn h=>h.refs
 |_,_,.agg h=>h.refs
 |_,_,.tup h=>h.refs
 |_,_,.yl=>rfl
 |_,_,.mp=>rfl
 |_,_,.ifc=>rfl
 |_,_,.Gl=>rfl
 |_,_,.el _ h=>qw h
 |_,_,.de _ _=>rfl
theorem GL.refs:∀{a:List AX} {x:List X},GL T n ρ a x->bZ x=qx a
 |_,_,.nil=>rfl
 |_,_,.cons h1 h2=>by show X.refs _++bZ _=AX.refs _++qx _;rw [h1.refs,h2.refs]
end
mutual
def AX.ren (f:Nat->Nat):AX->AX
 |.bs i a b=>.bs (f i) a b
 |.ptr i a b=>.ptr (f i) a b
 |.yl i=>.yl (f i)
 |.mp i=>.mp (f i)
 |.fn g cs=>.fn g (zhB f cs)
 |.agg cs=>.agg (zhB f cs)
 |.tup cs=>.tup (zhB f cs)
 |.i k l=>.i k l
 |.b t u=>.b t u
 |.s l=>.s l
 |.x x=>.x x
 |.sl t sz k h l=>.sl t sz k h l
 |.dp cs=>.dp cs
 |.tX=>.tX
 |.el k h=>.el k h
 |.de k h=>.de k h
def zhB (f:Nat->Nat):List AX->List AX
 |[]=>[]
 |x::r=>x.ren f::zhB f r
end
mutual
theorem G.ren (f:Nat->Nat):∀{a:AX} {x:X},G T n ρ a x->G T n ρ (a.ren f) (x.ren f)
 |_,_,.i h1 h2=>.i h1 h2
 |_,_,.b h1 h2=>.b h1 h2
 |_,_,.s h1 h2=>.s h1 h2
 |.x _,x,.x h=>by show G T n ρ (.x x) (x.ren f);rw [IV f x h];exact .x h
 |_,_,.sl h1 h2 h3 h4 h5=>.sl h1 h2 h3 h4 h5
 |_,_,.bs h1 h2 h3 h4=>.bs h1 h2 h3 h4
 |_,_,.ptr h1 h2=>.ptr h1 h2
 |_,_,.dp h=>.dp h
 |_,_,.fn h=>.fn (h.ren f)
 |_,_,.agg h=>.agg (h.ren f)
 |_,_,.tup h=>.tup (h.ren f)
 |_,_,.yl=>.yl
 |_,_,.mp=>.mp
 |_,_,.ifc=>.ifc
 |_,_,.Gl=>.Gl
 |_,_,.el (xs:=xs) h1 h2=>by rw [show X.ren f (.agg xs)=.agg xs from IV f (.agg xs) (qw h2)];exact .el h1 h2
 |_,_,.de h1 h2=>.de h1 h2
theorem GL.ren (f:Nat->Nat):∀{a:List AX} {x:List X},GL T n ρ a x->GL T n ρ (zhB f a) (NZ f x)
 |_,_,.nil=>.nil
 |_,_,.cons h1 h2=>.cons (h1.ren f) (h2.ren f)
end
def zhA (f:Nat->Nat)(tm:List (Nat×AX)):List (Nat×AX):=tm.map fun p=>(p.1,p.2.ren f)
theorem GT.ren (f:Nat->Nat):∀{a:List (Nat×AX)} {x:List (Nat×X)},GT T n ρ a x->GT T n ρ (zhA f a) (zfP f x)
 |_,_,.nil=>.nil
 |_,_,.cons h1 h2=>.cons (h1.ren f) (h2.ren f)
theorem GT.vals:∀{a:List (Nat×AX)} {x:List (Nat×X)},GT T n ρ a x->GL T n ρ (a.map (·.2)) (x.map (·.2))
 |_,_,.nil=>.nil
 |_,_,.cons h1 h2=>.cons h1 h2.vals
def ABx.refs:ABx->List Nat
 |.var cs=>qx cs
 |.loop _ _ tm _ _ _=>qx (tm.map (·.2))
 |.row _ _ _ _|.map _|.dead|.el _ _=>[]
def ABx.ren (f:Nat->Nat):ABx->ABx
 |.var cs=>.var (zhB f cs)
 |.loop st p tm ps a b=>.loop st p (zhA f tm) ps a b
 |.row s k h l=>.row s k h l
 |.map es=>.map es
 |.dead=>.dead
 |.el k h=>.el k h
theorem GB.refs:∀{a:ABx} {x:Bx},GB T n ρ a x->x.refs=a.refs
 |_,_,.var h=>h.refs
 |_,_,.row _ _ _ _=>rfl
 |_,_,.loop h=>h.vals.refs
 |_,_,.map _=>rfl
 |_,_,.dead=>rfl
 |_,_,.el _ h=>qw h
theorem GB.ren (f:Nat->Nat):∀{a:ABx} {x:Bx},GB T n ρ a x->GB T n ρ (a.ren f) (x.ren f)
 |_,_,.var h=>.var (h.ren f)
 |_,_,.row h1 h2 h3 h4=>.row h1 h2 h3 h4
 |_,_,.loop h=>.loop (h.ren f)
 |_,_,.map h=>.map h
 |_,_,.dead=>.dead
 |_,_,.el (xs:=xs) h1 h2=>by rw [show Bx.ren f (.var xs)=.var xs from by show Bx.var (NZ f xs)=_<;>grind[nV,qw]];exact .el h1 h2
theorem GBs.len:∀{l:List ABx} {m:List Bx},GBs T n ρ l m->l.length=m.length
 |_,_,.nil=>rfl
 |_,_,.cons _ h=>by rw [qaz,qaz,h.len]
theorem GBs.get:∀{l:List ABx} {m:List Bx} {i:Nat} {a:ABx},GBs T n ρ l m->l[i]?=some a->∃x,m[i]?=some x/\GB T n ρ a x
 |_,_,i,_,.nil,e=>by grind
 |_,_,0,_,.cons h1 _,e=>by grind
 |_,_,_+1,_,.cons _ h,e=>by simpa using h.get (by grind)
theorem GBs.none:∀{l:List ABx} {m:List Bx} {i:Nat},GBs T n ρ l m->l[i]?=none->m[i]?=none:=by intro l m i h e;rw [List.getElem?_eq_none_iff] at e ⊢;rw [<-h.len]<;>grind
theorem GBs.set:∀{l:List ABx} {m:List Bx} {a:ABx} {x:Bx} (i:Nat),GBs T n ρ l m->GB T n ρ a x->GBs T n ρ (l.set i a) (m.set i x)
 |_,_,_,_,_,.nil,_=>.nil
 |_,_,_,_,0,.cons _ h,h'=>.cons h' h
 |_,_,_,_,i+1,.cons h1 h,h'=>.cons h1 (h.set i h')
theorem GBs.append:∀{l l':List ABx} {m m':List Bx},GBs T n ρ l m->GBs T n ρ l' m'->GBs T n ρ (l++l') (m++m')
 |_,_,_,_,.nil,h=>h
 |_,_,_,_,.cons h1 h,h'=>.cons h1 (h.append h')
theorem GBs.snoc {a:ABx}{x:Bx}(h:GBs T n ρ l m)(h':GB T n ρ a x):GBs T n ρ (l++[a]) (m++[x]):=h.append (.cons h' .nil)
theorem GBs.drop:∀{l:List ABx} {m:List Bx} (k:Nat),GBs T n ρ l m->GBs T n ρ (l.drop k) (m.drop k)
 |_,_,0,h=>h
 |_,_,_+1,.nil=>.nil
 |_,_,k+1,.cons _ h=>h.drop k
theorem GBs.ren (f:Nat->Nat):∀{l:List ABx} {m:List Bx},GBs T n ρ l m->GBs T n ρ (l.map (ABx.ren f)) (m.map (Bx.ren f))
 |_,_,.nil=>.nil
 |_,_,.cons h1 h=>.cons (h1.ren f) (h.ren f)
def tK (bx:List ABx):Nat->List Nat->List Nat->List Nat
 |0,_,seen=>seen
 |_+1,[],seen=>seen
 |m+1,i::todo,seen=>
  if sD i seen then tK bx m todo seen
  else match bx[i]? with
   |none=>tK bx m todo seen
   |some b=>tK bx m (todo++b.refs) (seen++[i])
theorem nX {l:List ABx}{m:List Bx}(h:GBs T n ρ l m):∀(f:Nat) (todo seen:List Nat),reach m f todo seen=tK l f todo seen
 |0,_,_=>rfl
 |_+1,[],_=>rfl
 |f+1,i::todo,seen=>by
  unfold reach tK;split;·exact nX h f todo seen
  cases hl:l[i]? with
  |none=>rw [h.none hl];exact nX h f todo seen
  |some a=>obtain ⟨x,hx,hg⟩:=h.get hl;rw [hx];dsimp only;rw [hg.refs];exact nX h f _ _
def Na (bx:List ABx):List Nat->Option (List ABx)
 |[]=>some []
 |i::r=>match bx[i]? with
  |none=>none
  |some b=>(Na bx r).map (b::·)
theorem MZ {l:List ABx}{m:List Bx}(h:GBs T n ρ l m):∀{s:List Nat} {p:List ABx},Na l s=some p->∃q,Qp m s=some q/\GBs T n ρ p q
 |[],p,e=>by simp only [Na,qag] at e;subst e;exact ⟨[],rfl,.nil⟩
 |i::r,p,e=>by
  unfold Na at e;split at e;·cases e
  rename_i b hb;obtain ⟨p',hp,rfl⟩:=qac.1 e;obtain ⟨x,hx,hg⟩:=h.get hb;obtain ⟨q,hq,hgq⟩:=MZ h hp;exact ⟨x::q,by grind[Qp],.cons hg hgq⟩
def LY (bx:List ABx)(sel:List Nat):Option (List ABx):=
 match Na bx sel with
 |none=>none
 |some l=>if Gi sel&&l.all (fun b=>Oj b.refs sel) then some (l.map (ABx.ren (uO · sel))) else none
theorem Ub:∀{p:List ABx} {q:List Bx} {sel:List Nat},GBs T n ρ p q->q.all (fun b=>Oj b.refs sel)=p.all (fun b=>Oj b.refs sel)
 |_,_,_,.nil=>rfl
 |_,_,_,.cons h1 h=>by rw [List.all_cons,List.all_cons,h1.refs,Ub h]
theorem BG (h:GBs T n ρ l m){s:List Nat}{p:List ABx}(e:LY l s=some p):∃q,Ez m s=some q/\GBs T n ρ p q:=by
 unfold LY at e;split at e;·cases e
 rename_i l' hl;obtain ⟨q,hq,hg⟩:=MZ h hl;split at e;next hc=>cases e;refine ⟨q.map (Bx.ren (uO · s)),?_,hg.ren _⟩;unfold Ez;rw [hq];dsimp only;rw [Ub hg,if_pos hc]
 grind
def TT (nIn:Nat)(a:ASt):Option ASt:=
 let sel:=tK a.bx iL (List.range nIn++qx (a.tm.map (·.2))) []
 if Oj (qx (a.tm.map (·.2))) sel&&sel.take nIn==List.range nIn then
  (LY a.bx sel).map fun bx=>⟨a.nx,a.F,zhA (uO · sel) a.tm,bx⟩
 else none
theorem D7 {a a':ASt}{σ:St}(h:R T ρ a σ){nIn:Nat}(e:TT nIn a=some a'):∃σ',canon nIn σ=some σ'/\R T ρ a' σ'/\a'.nx=a.nx:=by
 unfold TT at e;dsimp only at e;split at e;next hc=>obtain ⟨p,hp,rfl⟩:=qac.1 e;obtain ⟨q,hq,hg⟩:=BG h.bx hp;have e1:=h.tm.vals.refs;refine ⟨⟨zfP (uO · (tK a.bx iL (List.range nIn++qx (a.tm.map (·.2))) [])) σ.tm,q⟩,?_,⟨h.zero,h.pos,h.F,h.tm.ren _,hg⟩,rfl⟩;unfold canon;dsimp only;rw [e1,nX h.bx,if_pos hc,hq];rfl
 grind
end Go.Ab
namespace Go.Ab
open Go.Em
variable {a:ASt}{t:ET}{z:Int}{H:Lin}{F:List Fact}{σ:St}{x:X}
variable {T:Tab} {n:Nat} {ρ:Rho}
def upd (ρ:Rho)(n:Nat)(z:Int):Rho:=fun s=>if s=n then z else ρ s
theorem zl3 (ρ:Rho)(n:Nat)(z:Int):upd ρ n z n=z:=if_pos rfl
theorem KQ {ρ:Rho}{n s:Nat}(h:s<n):upd ρ n z s=ρ s:=if_neg (by omega)
theorem gq (ρ:Rho)(n:Nat)(z:Int):More n ρ (n+1) (upd ρ n z):=⟨by omega,fun _ hs=>KQ hs⟩
theorem R.more (h:R T ρ a σ){n':Nat}{ρ':Rho}(hm:More a.nx ρ n' ρ'):R T ρ' {a with nx:=n'} σ:=
 ⟨by rw [hm.same 0 h.pos];exact h.zero,Nat.lt_of_lt_of_le h.pos hm.le,hm.facts h.F,h.tm.more hm,h.bx.more hm⟩
theorem R.zxe (h:R T ρ a σ)(hF:aX a.nx ρ F):R T ρ {a with F:=F++a.F} σ:=
 ⟨h.zero,h.pos,fun f hf=>(qaK.1 hf).elim (hF f) (h.F f),h.tm,h.bx⟩
theorem aX.nil {n:Nat}{ρ:Rho}:aX n ρ []:=fun f h=>by cases h
theorem aX.cons {n:Nat}{ρ:Rho}{f:Fact}(h:f.ok n ρ)(hF:aX n ρ F):aX n ρ (f::F):=fun g hg=>by
 rcases qaj.1 hg with rfl|hg;·exact h
 exact hF g hg
theorem aX.append {n:Nat}{ρ:Rho}{F':List Fact}(h:aX n ρ F)(h':aX n ρ F'):aX n ρ (F++F'):=fun g hg=>(qaK.1 hg).elim (h g) (h' g)
def bnd (l:Lin)(lo hi:Option Int):List Fact:=
 (match lo with|some a=>[aj (.k a) l]|none=>[])++(match hi with|some b=>[aj l (.k b)]|none=>[])
theorem wV {l:Lin}{lo hi:Option Int}(h0:ρ 0=0)(hn:0<n)(hl:l.s<n)(h1:∀a,lo=some a->a<=l.v ρ)(h2:∀b,hi=some b->l.v ρ<=b):aX n ρ (bnd l lo hi):=by
 unfold bnd;refine aX.append ?_ ?_
 ·split;next a=>exact aX.cons (aJ.2 ⟨hn,hl,by simp_all[Lin.k_v]⟩) .nil
  exact .nil
 split;next b=>exact aX.cons (aJ.2 ⟨hl,hn,by simp_all[Lin.k_v]⟩) .nil
 exact .nil
def bot:Fact:=⟨0,0,-1⟩
def cb (t:Bool):AX:=if t then .b [] [bot] else .b [bot] []
theorem zU (t:Bool):G T n ρ (cb t) (.v (.bool t)):=by
 cases t;·exact .b (fun h=>by cases h) (fun _=>.nil)
 exact .b (fun _=>.nil) (fun h=>by cases h)
mutual
def ofX:X->AX
 |.v (.int k z)=>.i k (.k z)
 |.v (.bool b)=>cb b
 |.fn f cs=>.fn f (zdq cs)
 |.agg cs=>.agg (zdq cs)
 |.tup cs=>.tup (zdq cs)
 |.dp cs=>.dp (zdq cs)
 |x=>.x x
def zdq:List X->List AX
 |[]=>[]
 |x::r=>ofX x::zdq r
end
mutual
def X.bare:X->Bool
 |.bs _ _ _|.ptr _ _ _|.yl _|.mp _=>false
 |.fn _ cs=>EU cs
 |.agg cs=>EU cs
 |.tup cs=>EU cs
 |.dp cs=>EU cs
 |.v _|.sl _ _ _|.ifc=>true
def EU:List X->Bool
 |[]=>true
 |x::r=>X.bare x&&EU r
end
mutual
theorem Zg (h0:ρ 0=0)(hn:0<n):∀(x:X),X.bare x=true->G T n ρ (ofX x) x
 |.v (.int k z),_=>.i hn (Lin.k_v h0 z).symm
 |.v (.bool b),_=>zU b
 |.fn f cs,h=>.fn (qX h0 hn cs h)
 |.agg cs,h=>.agg (qX h0 hn cs h)
 |.tup cs,h=>.tup (qX h0 hn cs h)
 |.dp cs,h=>.dp (qX h0 hn cs h)
 |.v (.float _ _),_=>.x rfl
 |.v (.complex _ _ _),_=>.x rfl
 |.v (.string _),_=>.x rfl
 |.v (.pointer _),_=>.x rfl
 |.v (.slice _ _ _),_=>.x rfl
 |.v (.map _),_=>.x rfl
 |.v (.chan _),_=>.x rfl
 |.v (.func _ _ _),_=>.x rfl
 |.v .nilFunc,_=>.x rfl
 |.v (.iface _ _),_=>.x rfl
 |.v .nilIface,_=>.x rfl
 |.v (.agg _),_=>.x rfl
 |.v (.tuple _),_=>.x rfl
 |.sl _ _ _,_=>.x rfl
 |.ifc,_=>.x rfl
theorem qX (h0:ρ 0=0)(hn:0<n):∀(xs:List X),EU xs=true->GL T n ρ (zdq xs) xs
 |[],_=>.nil
 |x::r,h=>by have h:(X.bare x&&EU r)=true:=h;rw [qab] at h;exact .cons (Zg h0 hn x h.1) (qX h0 hn r h.2)
end
def inst1 (h:Lin)(nx:Nat):ET->AX×Nat×List Fact
 |.i k lo hi=>(.i k ⟨nx,0⟩,nx+1,bnd ⟨nx,0⟩ lo hi)
 |.b=>(.b [] [],nx,[])
 |.s lo hi=>(.s ⟨nx,0⟩,nx+1,bnd ⟨nx,0⟩ (some lo) (some hi))
 |.sl sz k lo hi=>(.sl none sz k (h.up (-1)) ⟨nx,0⟩,nx+1,bnd ⟨nx,0⟩ (some lo) (some hi))
 |.z=>(.x (.v .nilFunc),nx,[])
 |.tX=>(.tX,nx,[])
def EF (h:Lin):Nat->List ET->List AX×Nat×List Fact
 |nx,[]=>([],nx,[])
 |nx,t::r=>match inst1 h nx t with
  |(a,nx',F)=>match EF h nx' r with
   |(l,zuX,F')=>(a::l,zuX,F++F')
theorem dN {ρ:Rho}{n:Nat}:(⟨n,0⟩:Lin).v (upd ρ n z)=z:=by grind[Lin.v,zl3]
theorem zd2 {h:Lin}{nx:Nat}(h0:ρ 0=0)(hn:0<nx)(hh:h.s<nx)(hx:Ap (D T (h.v ρ-1)) t x):∃ρ',More nx ρ (inst1 h nx t).2.1 ρ'/\G T (inst1 h nx t).2.1 ρ' (inst1 h nx t).1 x/\aX (inst1 h nx t).2.1 ρ' (inst1 h nx t).2.2:=by
 have z0:∀z,upd ρ nx z 0=0:=fun z=>by grind[KQ]
 unfold Ap at hx;split at hx;next k lo hi k' z=>obtain ⟨rfl,h1,h2⟩:=hx;have hb:aX (nx+1) (upd ρ nx z) (bnd ⟨nx,0⟩ lo hi):=wV (z0 z) (Nat.succ_pos _) (qae _) (by grind[dN]) (by grind[dN]);exact ⟨upd ρ nx z,gq ..,.i (qae _) dN.symm,hb⟩
 ·exact ⟨ρ,.refl ..,.b (fun _=>.nil) (fun _=>.nil),.nil⟩
 ·rename_i lo hi bs;have hb:aX (nx+1) (upd ρ nx bs.size) (bnd ⟨nx,0⟩ (some (lo:Int)) (some (hi:Int))):=wV (z0 _) (Nat.succ_pos _) (qae _)
   (by grind[dN]) (by grind[dN])
  exact ⟨upd ρ nx bs.size,gq ..,.s (qae _) dN.symm,hb⟩
 ·rename_i sz k lo hi tt sz' es;obtain ⟨rfl,h1,h2,h3⟩:=hx;have hm:=gq ρ nx (es.length:Int);have hb:aX (nx+1) (upd ρ nx es.length) (bnd ⟨nx,0⟩ (some (lo:Int)) (some (hi:Int))):=wV (z0 _) (Nat.succ_pos _) (qae _)
   (by grind[dN]) (by grind[dN])
  refine ⟨upd ρ nx es.length,hm,.sl (qaB hh) (qae _) trivial dN.symm ?_,hb⟩;rw [Lin.mQ,hm.lin hh]<;>grind
 ·exact ⟨ρ,.refl ..,.x rfl,.nil⟩
 ·rcases hx with rfl|rfl;·exact ⟨ρ,.refl ..,.ifc,.nil⟩
  exact ⟨ρ,.refl ..,.Gl,.nil⟩
 grind
theorem Tc {h:Lin}:∀{ts:List ET} {xs:List X} {ρ:Rho} {nx:Nat},ρ 0=0->0<nx->h.s<nx->ETs (D T (h.v ρ-1)) ts xs->∃ρ',More nx ρ (EF h nx ts).2.1 ρ'/\GL T (EF h nx ts).2.1 ρ' (EF h nx ts).1 xs/\aX (EF h nx ts).2.1 ρ' (EF h nx ts).2.2
 |[],[],ρ,nx,_,_,_,_=>⟨ρ,.refl ..,.nil,.nil⟩
 |t::ts,x::xs,ρ,nx,h0,hn,hh,⟨hx,hxs⟩=>by obtain ⟨ρ1,m1,g1,f1⟩:=zd2 h0 hn hh hx;unfold EF;generalize inst1 h nx t=q at m1 g1 f1 ⊢;obtain ⟨a,nx1,F1⟩:=q;dsimp only at m1 g1 f1 ⊢;have hv:=m1.lin hh;obtain ⟨ρ2,m2,g2,f2⟩:=Tc (ts:=ts) (xs:=xs) (ρ:=ρ1) (nx:=nx1) (by rw [m1.same 0 hn]<;>grind) (Nat.lt_of_lt_of_le hn m1.le) (m1.lt hh) (by grind);generalize EF h nx1 ts=q at m2 g2 f2 ⊢;obtain ⟨l,nx2,F2⟩:=q;exact ⟨ρ2,m1.trans m2,.cons (g1.more m2) g2,(m2.facts f1).append f2⟩
def oLe (F:List Fact)(lo:Option Int)(l:Lin):Bool:=match lo with|none=>true|some a=>leL F (.k a) l
def oGe (F:List Fact)(hi:Option Int)(l:Lin):Bool:=match hi with|none=>true|some b=>leL F l (.k b)
def zrA (S:Nat->Nat->Bool)(F:List Fact)(H:Lin):ET->AX->Bool
 |.i k lo hi,.i k' l=>decide (k'=k)&&oLe F lo l&&oGe F hi l
 |.b,.b _ _=>true
 |.s lo hi,.s l=>leL F (.k lo) l&&leL F l (.k hi)
 |.s lo hi,.x (.v (.string bs))=>Nat.ble lo bs.size&&Nat.ble bs.size hi
 |.sl sz k lo hi,.sl _ sz' k' h l=>Nat.beq sz' sz&&(leL F l (.k 0)||(S k' k&&leL F h (H.up (-1))))&&leL F (.k lo) l&&leL F l (.k hi)
 |.sl sz _ lo _,.x (.sl _ sz' [])=>Nat.beq sz' sz&&Nat.beq lo 0
 |.z,.x (.v .nilFunc)=>true
 |.tX,.tX=>true
 |.tX,.x .ifc=>true
 |.tX,.x (.v .nilIface)=>true
 |_,_=>false
def zpb (S:Nat->Nat->Bool)(F:List Fact)(H:Lin):List ET->List AX->Bool
 |[],[]=>true
 |t::ts,a::l=>zrA S F H t a&&zpb S F H ts l
 |_,_=>false
def fits (T:Tab)(F:List Fact)(H:Lin)(k:Nat)(cs:List AX):Bool:=leL F (.k 1) H&&(T k).any fun alt=>zpb (kle T) F H alt cs
theorem zkk (h0:ρ 0=0)(hF:aX n ρ F){S:Nat->Nat->Bool}(hS:SOk T S){a:AX}(h:zrA S F H t a=true)(hg:G T n ρ a x):Ap (D T (H.v ρ-1)) t x:=by
 unfold zrA at h;split at h
 ·cases hg with
  |i h1 h2=>
   simp at h;obtain ⟨⟨h3,h4⟩,h5⟩:=h;refine ⟨h3,fun a e=>?_,fun b e=>?_⟩;·subst e;have:=aU hF h4<;>grind[Lin.k_v]
   subst e;have:=aU hF h5<;>grind[Lin.k_v]
 ·cases hg;trivial
 ·cases hg with
  |s h1 h2=>rw [qab] at h;have h3:=aU hF h.1;have h4:=aU hF h.2;rw [Lin.k_v h0] at h3 h4;exact ⟨by omega,by omega⟩
 ·cases hg;rw [qab] at h;exact ⟨Nat.le_of_ble_eq_true h.1,Nat.le_of_ble_eq_true h.2⟩
 ·cases hg with
  |sl h1 h2 h3 h4 h5=>
   simp only [qab,Bool.or_eq_true] at h;obtain ⟨⟨⟨e1,e2⟩,e3⟩,e4⟩:=h;have h6:=aU hF e3;have h7:=aU hF e4;rw [Lin.k_v h0] at h6 h7;refine ⟨qai e1,by omega,by omega,fun e he=>?_⟩;rcases e2 with e2|⟨e2,e5⟩;·have h8:=aU hF e2<;>grind[Lin.k_v]
   have h8:=aU hF e5;rw [Lin.mQ] at h8;exact hS e2 (fU (by omega) (h5 e he))
 ·cases hg;rw [qab] at h;have:=qai h.2;subst this;exact ⟨qai h.1,Nat.zero_le _,Nat.zero_le _,fun e he=>by grind⟩
 ·cases hg;trivial
 ·cases hg;·exact .inl rfl
  exact .inr rfl
 ·cases hg;exact .inl rfl
 ·cases hg;exact .inr rfl
 grind
theorem zaQ {F:List Fact}(h0:ρ 0=0)(hF:aX n ρ F){H:Lin}{S:Nat->Nat->Bool}(hS:SOk T S):∀{ts:List ET} {l:List AX} {xs:List X},zpb S F H ts l=true->GL T n ρ l xs->ETs (D T (H.v ρ-1)) ts xs
 |[],[],_,_,.nil=>trivial
 |t::ts,a::l,_,h,.cons h1 h2=>by unfold zpb at h;rw [qab] at h;exact ⟨zkk h0 hF hS h.1 h1,zaQ h0 hF hS h.2 h2⟩
theorem Qw (h0:ρ 0=0)(hF:aX n ρ F){k:Nat}{cs:List AX}{xs:List X}(h:fits T F H k cs=true)(hg:GL T n ρ cs xs):D T (H.v ρ) k xs:=by unfold fits at h;rw [qab] at h;obtain ⟨alt,ha,hf⟩:=List.any_eq_true.1 h.2;have h1:=aU hF h.1<;>grind[Lin.k_v,dH,zaQ,sok]
end Go.Ab
namespace Go.Ab
open Go.Em
variable {a:ASt}{p y:AX}{cs new:List AX}{xs:List X}{σ:St}{q:X}
variable {T:Tab} {n:Nat} {ρ:Rho}
def lkA:List (Nat×AX)->Nat->Option AX
 |[],_=>none
 |(k,x)::r,n=>if k==n then some x else lkA r n
theorem jr:∀{l:List (Nat×AX)} {m:List (Nat×X)} {s:Nat} {a:AX},GT T n ρ l m->lkA l s=some a->∃x,lk m s=some x/\G T n ρ a x
 |_,_,_,_,.nil,e=>by cases e
 |_,_,s,a,.cons (k:=k) h1 h2,e=>by
  unfold lkA at e;unfold lk;split at e
  ·grind
  rename_i hk;rw [if_neg hk];exact jr h2 e
theorem sG:∀{l:List (Nat×AX)} {m:List (Nat×X)} {s:Nat},GT T n ρ l m->lkA l s=none->lk m s=none
 |_,_,_,.nil,_=>rfl
 |_,_,s,.cons (k:=k) h1 h2,e=>by
  unfold lkA at e;unfold lk;split at e;·cases e
  rename_i hk;rw [if_neg hk];exact sG h2 e
def ASt.ev (a:ASt):Opd->Option AX
 |.t m=>lkA a.tm m
 |.k x=>if X.bare x then some (ofX x) else none
theorem cO (h:R T ρ a σ){o:Opd}(e:a.ev o=some y):∃x,σ.ev o=some x/\G T a.nx ρ y x:=by
 cases o with
 |t m=>exact jr h.tm e
 |k x=>
  unfold ASt.ev at e;dsimp only at e;split at e;next hb=>cases e;exact ⟨x,rfl,Zg h.zero h.pos x hb⟩
  grind
def zkm (a:ASt):List Opd->Option (List AX)
 |[]=>some []
 |o::r=>match a.ev o with
  |none=>none
  |some x=>(zkm a r).map (x::·)
theorem JK {a:ASt}{σ:St}(h:R T ρ a σ):∀{l:List Opd} {ys:List AX},zkm a l=some ys->∃xs,evs σ l=some xs/\GL T a.nx ρ ys xs
 |[],ys,e=>by simp only [zkm,qag] at e;subst e;exact ⟨[],rfl,.nil⟩
 |o::r,ys,e=>by
  unfold zkm at e;split at e;·cases e
  rename_i y hy;obtain ⟨ys',h1,rfl⟩:=qac.1 e;obtain ⟨x,hx,hg⟩:=cO h hy;obtain ⟨xs,hxs,hgs⟩:=JK h h1;exact ⟨x::xs,by grind[evs],.cons hg hgs⟩
def AX.cells:AX->Option (List AX)
 |.agg cs=>some cs
 |.tup _=>none
 |.x (.agg _)=>none
 |.x (.tup _)=>none
 |.x (.v (.tuple _))=>none
 |.el _ _=>none
 |a=>some [a]
theorem cells_ok {a:AX}{x:X}(hg:G T n ρ a x)(h:a.cells=some cs):x.ok1=true/\GL T n ρ cs x.cells:=by
 unfold AX.cells at h;split at h<;>try grind
 ·cases h;cases hg with|agg h1=>exact ⟨rfl,h1⟩
 rename_i a h1 h2 h3 h4 h5 h6;cases h;have hc:x.ok1=true/\x.cells=[x]:=by
  cases hg with
  |agg _=>grind
  |tup _=>grind
  |x hr=>
   cases x with
   |agg cs=>grind
   |tup cs=>grind
   |v y=>
    cases y with
    |tuple t=>grind
    |_=>exact ⟨rfl,rfl⟩
   |_=>exact ⟨rfl,rfl⟩
  |el _ _=>grind
  |_=>exact ⟨rfl,rfl⟩
 rw [hc.2];exact ⟨hc.1,.one hg⟩
def AQ (cs:List AX)(o:Nat)(new:List AX):Option (List AX):=
 if o+new.length<=cs.length then some (cs.take o++new++cs.drop (o+new.length)) else none
theorem wY {r:List AX}{xn:List X}{o:Nat}(h1:GL T n ρ cs xs)(h2:GL T n ρ new xn)(e:AQ cs o new=some r):∃xr,splice xs o xn=some xr/\GL T n ρ r xr:=by
 unfold AQ at e;split at e
 ·rename_i hc;cases e;refine ⟨xs.take o++xn++xs.drop (o+xn.length),?_,?_⟩;·unfold splice;rw [<-h1.len,<-h2.len,if_pos hc]
  rw [<-h2.len];exact ((h1.take o).append h2).append (h1.drop _)
 grind
def zbX (l:Lin):Bool:=Nat.beq l.s 0&&(match l.c with|.ofNat 0=>true|_=>false)
theorem rD {l:Lin}(h:zbX l=true)(h0:ρ 0=0):l.v ρ=0:=by
 unfold zbX at h;rw [qab] at h
 grind[Lin.v,qai]
def VI (T:Tab)(a:ASt)(k:Nat)(h:Lin):List (List AX×ASt):=if leL a.F h (.k 0) then [] else (T k).map fun alt=>match EF h a.nx alt with
 |(cs,nx,F)=>(cs,{a with nx:=nx,F:=aj (.k 1) h::(F++a.F)})
theorem Ai (hr:R T ρ a σ){k:Nat}{h:Lin}(hh:h.s<a.nx)(hd:D T (h.v ρ) k xs):∃q,q∈VI T a k h/\∃ρ',More a.nx ρ q.2.nx ρ'/\R T ρ' q.2 σ/\GL T q.2.nx ρ' q.1 xs:=by
 obtain ⟨h1,alt,ha,hs⟩:=lT hd;obtain ⟨ρ',hm,hg,hf⟩:=Tc hr.zero hr.pos hh hs;have hne:¬leL a.F h (.k 0)=true:=fun hc=>by have:=aU hr.F hc;rw [Lin.k_v hr.zero] at this;omega
 unfold VI;rw [if_neg hne];refine ⟨_,qal.2 ⟨alt,ha,rfl⟩,ρ',?_⟩;generalize EF h a.nx alt=q at hm hg hf ⊢;obtain ⟨cs,nx,F⟩:=q;dsimp only at hm hg hf ⊢;refine ⟨hm,?_,hg⟩;have h2:=hr.more hm;have h3:(aj (.k 1) h).ok nx ρ':=aJ.2 ⟨h2.pos,hm.lt hh,by rw [Lin.k_v h2.zero,hm.lin hh]<;>grind⟩;exact ⟨h2.zero,h2.pos,aX.cons h3 (hf.append h2.F),h2.tm,h2.bx⟩
def zid (T:Tab)(a:ASt):AX->Option (List (List AX×ASt))
 |.ptr i e o=>match a.bx[i]? with
  |some (.var cs)=>if zbX e then some [(cs.drop o,a)] else none
  |some (.row _ k h l)=>if leL a.F (e.up 1) l&&leL a.F (.k 0) e then some ((VI T a k h).map fun q=>(q.1.drop o,q.2)) else none
  |_=>none
 |.dp cs=>some [(cs,a)]
 |_=>none
theorem kP {α:Type}{l:List α}{i:Nat}(h:i<l.length):∃x,l[i]?=some x/\x∈l:=by intros;simp_all
theorem zdD (hr:R T ρ a σ)(hp:G T a.nx ρ p q){outs:List (List AX×ASt)}(e:zid T a p=some outs):
  ∃r,r∈outs/\∃ρ' xs,More a.nx ρ r.2.nx ρ'/\R T ρ' r.2 σ/\GL T r.2.nx ρ' r.1 xs/\jU σ q=some xs:=by
 unfold zid at e;split at e
 ·rename_i i e0 o;cases hp with
  |ptr h1 h2=>
   rename_i e';split at e
   ·rename_i cs hb;split at e
    ·rename_i hz;cases e;obtain ⟨b,hb',hg⟩:=hr.bx.get hb;cases hg with
     |var hg=>
      have h0:=rD hz hr.zero;have:e'=0:=by omega
      subst this;exact ⟨_,qaa.2 rfl,ρ,_,.refl ..,hr,hg.drop o,by grind[jU]⟩
    grind
   ·rename_i sz k h l hb;split at e
    ·rename_i hc;cases e;rw [qab] at hc;obtain ⟨b,hb',hg⟩:=hr.bx.get hb;cases hg with
     |row g1 g2 g3 g4=>rename_i es;have c1:=aU hr.F hc.1;rw [Lin.mQ] at c1;obtain ⟨x,hx,hmem⟩:=kP (show e'<es.length by omega);obtain ⟨q,hq,ρ',m1,m2,m3⟩:=Ai hr g1 (g4 x hmem);exact ⟨_,qal.2 ⟨q,hq,rfl⟩,ρ',_,m1,m2,m3.drop o,by grind[jU]⟩
    grind
   grind
 ·cases e;cases hp with
  |dp hg=>exact ⟨_,qaa.2 rfl,ρ,_,.refl ..,hr,hg,rfl⟩
 grind
def takeA (m:Option Nat)(cs:List AX):Option AX:=match m with
 |none=>cs.head?
 |some m=>if (cs.take m).length==m then some (.agg (cs.take m)) else none
theorem zW {m:Option Nat}(hg:GL T n ρ cs xs)(e:takeA m cs=some y):∃x,(match m with|none=>xs.head?|some m=>if (xs.take m).length==m then some (X.agg (xs.take m)) else none)=some x/\G T n ρ y x:=by
 cases m with
 |none=>
  cases hg<;>simp_all[takeA]
 |some m=>
  unfold takeA at e;dsimp only at e ⊢;split at e;next hc=>cases e;have h1:=hg.take m;rw [<-h1.len,if_pos hc];exact ⟨_,rfl,.agg h1⟩
  grind
def XZ (T:Tab)(a:ASt)(m:Nat)(p:AX)(new:List AX):Option ASt:=
 if new.length==m then match p with
  |.ptr i e o=>match a.bx[i]? with
   |some (.var cs)=>if zbX e then (AQ cs o new).map fun cs'=>{a with bx:=a.bx.set i (.var cs')} else none
   |some (.row _ k h l)=>if (qx new).isEmpty&&leL a.F (e.up 1) l&&leL a.F (.k 0) e&&(VI T a k h).all (fun q=>match AQ q.1 o new with|some cs'=>fits T q.2.F h k cs'|none=>false) then some a else none
   |_=>none
  |_=>none
 else none
theorem GBs.same:∀{l:List ABx} {m:List Bx} {i:Nat} {a:ABx} {x:Bx},GBs T n ρ l m->l[i]?=some a->GB T n ρ a x->GBs T n ρ l (m.set i x)
 |_,_,i,_,_,.nil,e,_=>by grind
 |_,_,0,_,_,.cons _ h2,e,hx=>by simp at e;subst e;exact .cons hx h2
 |_,_,i+1,_,_,.cons h1 h2,e,hx=>.cons h1 (h2.same (by grind) hx)
theorem XY {a':ASt}(hr:R T ρ a σ){y:X}{m:Nat}(hp:G T a.nx ρ p q)(h1:y.ok1=true)(hn:GL T a.nx ρ new y.cells)(e:XZ T a m p new=some a'):
  ∃bx,kD σ.bx m q y=some bx/\R T ρ a' ⟨σ.tm,bx⟩/\a'.nx=a.nx:=by
 unfold XZ at e;split at e
 ·rename_i hm;have hm':(y.ok1&&y.cells.length==m)=true:=by rw [h1,<-hn.len];exact hm
  split at e
  ·rename_i i e0 o;cases hp with
   |ptr p1 p2=>
    rename_i e';split at e
    ·rename_i cs hb;split at e
     ·rename_i hz;obtain ⟨cs',hc',rfl⟩:=qac.1 e;obtain ⟨b,hb',hg⟩:=hr.bx.get hb;cases hg with
      |var hg=>
       have h0:=rD hz hr.zero;have:e'=0:=by omega
       subst this;obtain ⟨xr,hx,hg'⟩:=wY hg hn hc';refine ⟨σ.bx.set i (.var xr),?_,⟨hr.zero,hr.pos,hr.F,hr.tm,hr.bx.set i (.var hg')⟩,rfl⟩<;>simp_all[kD]
     grind
    ·rename_i sz k h l hb;split at e
     ·rename_i hc;cases e;simp only [qab,qas] at hc;obtain ⟨⟨⟨c1,c2⟩,c3⟩,c4⟩:=hc;obtain ⟨b,hb',hg⟩:=hr.bx.get hb;cases hg with
      |row g1 g2 g3 g4=>
       rename_i es;have d1:=aU hr.F c2;rw [Lin.mQ] at d1;obtain ⟨x,hx,hmem⟩:=kP (show e'<es.length by omega);obtain ⟨q,hq,ρ',m1,m2,m3⟩:=Ai hr g1 (g4 x hmem);have c5:=c4 q hq;split at c5
       ·rename_i cs' hs;obtain ⟨xr,hx',hg'⟩:=wY m3 (hn.more m1) hs;have hd:=Qw m2.zero m2.F c5 hg';rw [m1.lin g1] at hd;refine ⟨σ.bx.set i (.row sz (es.set e' xr)),?_,⟨hr.zero,hr.pos,hr.F,hr.tm,hr.bx.same hb (.row g1 g2 (by grind) fun w hw=>?_)⟩,rfl⟩;·unfold kD;rw [if_pos hm'];dsimp only;rw [hb'];dsimp only;rw [hx];dsimp only;rw [hn.refs,if_pos c1,hx'];rfl
        grind
       grind
     grind
    grind
  grind
 grind
end Go.Ab
namespace Go.Ab
open Go.Em
variable {a:ASt}{i:I}{z:Int}{k:IntKind}{b c l x y:Lin}{F:List Fact}{σ:St}
variable {T:Tab} {n:Nat} {ρ:Rho}
def zbW:IntKind->Int
 |.i8=>-128|.i16=>-32768|.i32=>-2147483648|.i64=>-9223372036854775808
 |_=>0
def Zy:IntKind->Int
 |.i8=>127|.i16=>32767|.i32=>2147483647|.i64=>9223372036854775807
 |.u8=>255|.u16=>65535|.u32=>4294967295|_=>18446744073709551615
theorem kS (k:IntKind)(z:Int):zbW k<=k.wrap z:=by
 cases k<;>simp [IntKind.wrap,IntKind.bits,IntKind.signed,zbW]<;>(try split)<;>omega
theorem kT (k:IntKind)(z:Int):k.wrap z<=Zy k:=by
 cases k<;>simp [IntKind.wrap,IntKind.bits,IntKind.signed,Zy]<;>(try split)<;>omega
theorem Aq (h1:zbW k<=z)(h2:z<=Zy k):k.wrap z=z:=by
 cases k<;>simp only [zbW,Zy] at h1 h2<;>simp [IntKind.wrap,IntKind.bits,IntKind.signed]<;>(try split)<;>omega
abbrev Out:=AX×ASt×FP
def fp0:FP:=⟨false,[],[]⟩
def dR (T:Tab)(ρ:Rho)(a:ASt)(σ:St)(i:I)(outs:List Out):Prop:=
 ∃o,o∈outs/\∃ρ' x bx,More a.nx ρ o.2.1.nx ρ'/\R T ρ' o.2.1 ⟨σ.tm,bx⟩/\G T o.2.1.nx ρ' o.1 x/\∀Γ,aG Γ σ i=some (x,bx,o.2.2)
theorem dR.one {y:AX}{x:X}{fp:FP}(hr:R T ρ a σ)(hg:G T a.nx ρ y x)(hs:∀Γ,aG Γ σ i=some (x,σ.bx,fp)):dR T ρ a σ i [(y,a,fp)]:=
 ⟨_,qaa.2 rfl,ρ,x,σ.bx,.refl ..,hr,hg,hs⟩
def Xi (a:ASt)(k:IntKind)(Fs:List Fact):Out:=(.i k ⟨a.nx,0⟩,{a with nx:=a.nx+1,F:=Fs++a.F},fp0)
theorem lD {Fs:List Fact}(hr:R T ρ a σ)(hF:aX (a.nx+1) (upd ρ a.nx z) Fs)(hs:∀Γ,aG Γ σ i=some (.v (.int k z),σ.bx,fp0)):dR T ρ a σ i [Xi a k Fs]:=by have hm:=gq ρ a.nx z;have h1:=hr.more hm;exact ⟨_,qaa.2 rfl,upd ρ a.nx z,_,σ.bx,hm,⟨h1.zero,h1.pos,hF.append h1.F,h1.tm,h1.bx⟩,.i (qae _) dN.symm,hs⟩
def zp0 (a:ASt)(l:Lin)(Fs:List Fact):Out:=(.s l,{a with nx:=a.nx+1,F:=Fs++a.F},fp0)
def low (F:List Fact)(l:Lin):Option Int:=
 if Nat.beq l.s 0 then some l.c else (zlV (rounds 3 F [(0,0)]) l.s).map fun d=>l.c-d
def high (F:List Fact)(l:Lin):Option Int:=
 if Nat.beq l.s 0 then some l.c else (zlV (rounds 3 F [(l.s,0)]) 0).map fun d=>l.c+d
theorem vX (h0:ρ 0=0)(hF:aX n ρ F){c:Int}(h:low F l=some c):c<=l.v ρ:=by
 unfold low at h;unfold Lin.v;split at h;·simp_all
 obtain ⟨d,hd,rfl⟩:=qac.1 h;have h1:zgr ρ 0 [(0,0)]:=fun p hp=>by grind
 have h2:=BA hF 3 h1 _ (Aj hd)<;>grind
theorem jG (h0:ρ 0=0)(hF:aX n ρ F){c:Int}(h:high F l=some c):l.v ρ<=c:=by
 unfold high at h;unfold Lin.v;split at h;·simp_all
 obtain ⟨d,hd,rfl⟩:=qac.1 h;have h1:zgr ρ l.s [(l.s,0)]:=fun p hp=>by grind
 have h2:=BA hF 3 h1 _ (Aj hd)<;>grind
def Xc (a b:Lin):Option Lin:=if Nat.beq b.s 0 then some (a.up b.c) else if Nat.beq a.s 0 then some (b.up a.c) else none
def zlz (a b:Lin):Option Lin:=if Nat.beq b.s 0 then some (a.up (-b.c)) else if Nat.beq a.s b.s then some (.k (a.c-b.c)) else none
theorem qg (h0:ρ 0=0){a:Lin}(h:Xc a b=some c):c.v ρ=a.v ρ+b.v ρ:=by grind[Xc,Lin.mQ,Lin.v,qai]
theorem XP (h0:ρ 0=0){a:Lin}(h:zlz a b=some c):c.v ρ=a.v ρ-b.v ρ:=by grind[zlz,Lin.mQ,Lin.v,qai,Lin.k_v]
theorem Ec {a:Lin}(h:Xc a b=some c)(ha:a.s<n)(hb:b.s<n):c.s<n:=by
 unfold Xc at h;split at h;·cases h;exact ha
 split at h;·cases h;exact hb
 grind
theorem XQ {a:Lin}(hn:0<n)(h:zlz a b=some c)(ha:a.s<n):c.s<n:=by
 unfold zlz at h;split at h;·cases h;exact ha
 split at h;·cases h;exact hn
 grind
def anyI (a:ASt)(k:IntKind):Out:=Xi a k (bnd ⟨a.nx,0⟩ (some (zbW k)) (some (Zy k)))
theorem lS (hr:R T ρ a σ)(h1:zbW k<=z)(h2:z<=Zy k)(hs:∀Γ,aG Γ σ i=some (.v (.int k z),σ.bx,fp0)):dR T ρ a σ i [anyI a k]:=
 lD hr (wV (by rw [KQ hr.pos];exact hr.zero) (Nat.succ_pos _) (qae _) (by grind[dN]) (by grind[dN])) hs
def inI (a:ASt)(k:IntKind)(l:Lin):Option Out:=if leL a.F (.k (zbW k)) l&&leL a.F l (.k (Zy k)) then some (.i k l,a,fp0) else none
def zsf (a:ASt)(k:IntKind)(x y:Lin):Out:=
 match Xc x y with
 |some l=>(inI a k l).getD (anyI a k)
 |none=>match low a.F x,low a.F y,high a.F x,high a.F y with
  |some lx,some ly,some hx,some hy=>
   if leI (zbW k) (lx+ly)&&leI (hx+hy) (Zy k) then
    Xi a k (aj (x.up ly) ⟨a.nx,0⟩::aj (y.up lx) ⟨a.nx,0⟩::aj ⟨a.nx,0⟩ (x.up hy)::[aj ⟨a.nx,0⟩ (y.up hx)])
   else anyI a k
  |_,_,_,_=>anyI a k
def zoG (a:ASt)(k:IntKind)(x y:Lin):Out:=
 match zlz x y with
 |some l=>(inI a k l).getD (anyI a k)
 |none=>match low a.F x,low a.F y,high a.F x,high a.F y with
  |some lx,some ly,some hx,some hy=>
   if leI (zbW k) (lx-hy)&&leI (hx-ly) (Zy k) then
    Xi a k (aj (x.up (-hy)) ⟨a.nx,0⟩::aj ⟨a.nx,0⟩ (x.up (-ly))::(if leL a.F y x then [aj (.k 0) ⟨a.nx,0⟩] else []))
   else anyI a k
  |_,_,_,_=>anyI a k
theorem zno {o:Out}(hr:R T ρ a σ)(hl:l.s<a.nx)(hz:l.v ρ=z)(hs:∀Γ,aG Γ σ i=some (.v (.int k (k.wrap z)),σ.bx,fp0))(h:inI a k l=some o):dR T ρ a σ i [o]:=by
 unfold inI at h;split at h;next hc=>cases h;rw [qab] at hc;have h1:=aU hr.F hc.1;have h2:=aU hr.F hc.2;rw [Lin.k_v hr.zero] at h1 h2;exact .one hr (.i hl hz.symm) (fun Γ=>by grind[Aq])
 grind
theorem Qo (hr:R T ρ a σ)(hl:l.s<a.nx)(hz:l.v ρ=z)(hs:∀Γ,aG Γ σ i=some (.v (.int k (k.wrap z)),σ.bx,fp0)):dR T ρ a σ i [(inI a k l).getD (anyI a k)]:=by
 cases h:inI a k l with
 |none=>exact lS hr (kS k z) (kT k z) hs
 |some o=>exact zno hr hl hz hs h
theorem zlj (hr:R T ρ a σ)(hx:x.s<a.nx)(hy:y.s<a.nx)(hs:∀Γ,aG Γ σ i=some (.v (.int k (k.wrap (x.v ρ+y.v ρ))),σ.bx,fp0)):dR T ρ a σ i [zsf a k x y]:=by
 have hm:=gq ρ a.nx (x.v ρ+y.v ρ);unfold zsf;split;next l h=>exact Qo hr (Ec h hx hy) (qg hr.zero h) hs
 split
 ·rename_i lx ly hx' hy' e1 e2 e3 e4;have b1:=vX hr.zero hr.F e1;have b2:=vX hr.zero hr.F e2;have b3:=jG hr.zero hr.F e3;have b4:=jG hr.zero hr.F e4;split
  ·rename_i hc;rw [qab,jE,jE] at hc;refine lD hr (z:=x.v ρ+y.v ρ) (aX.cons ?_ (aX.cons ?_ (aX.cons ?_ (aX.cons ?_ .nil)))) (fun Γ=>by grind[Aq]);·exact aJ.2 ⟨qaB hx,qae _,by rw [Lin.mQ,dN,hm.lin hx];omega⟩
   ·exact aJ.2 ⟨qaB hy,qae _,by rw [Lin.mQ,dN,hm.lin hy];omega⟩
   ·exact aJ.2 ⟨qae _,qaB hx,by rw [Lin.mQ,dN,hm.lin hx];omega⟩
   exact aJ.2 ⟨qae _,qaB hy,by rw [Lin.mQ,dN,hm.lin hy];omega⟩
  exact lS hr (kS k _) (kT k _) hs
 exact lS hr (kS k _) (kT k _) hs
theorem XR (hr:R T ρ a σ)(hx:x.s<a.nx)(hy:y.s<a.nx)(hs:∀Γ,aG Γ σ i=some (.v (.int k (k.wrap (x.v ρ-y.v ρ))),σ.bx,fp0)):dR T ρ a σ i [zoG a k x y]:=by
 have hm:=gq ρ a.nx (x.v ρ-y.v ρ);unfold zoG;split;next l h=>exact Qo hr (XQ hr.pos h hx) (XP hr.zero h) hs
 split
 ·rename_i lx ly hx' hy' e1 e2 e3 e4;have b1:=vX hr.zero hr.F e1;have b2:=vX hr.zero hr.F e2;have b3:=jG hr.zero hr.F e3;have b4:=jG hr.zero hr.F e4;split
  ·rename_i hc;rw [qab,jE,jE] at hc;refine lD hr (z:=x.v ρ-y.v ρ) (aX.cons ?_ (aX.cons ?_ ?_)) (fun Γ=>by grind[Aq]);·exact aJ.2 ⟨qaB hx,qae _,by rw [Lin.mQ,dN,hm.lin hx];omega⟩
   ·exact aJ.2 ⟨qae _,qaB hx,by rw [Lin.mQ,dN,hm.lin hx];omega⟩
   split;next hle=>have:=aU hr.F hle;exact aX.cons (aJ.2 ⟨Nat.succ_pos _,qae _,by rw [dN,Lin.k_v (by rw [KQ hr.pos];exact hr.zero)];omega⟩) .nil
   exact .nil
  exact lS hr (kS k _) (kT k _) hs
 exact lS hr (kS k _) (kT k _) hs
end Go.Ab
namespace Go.Ab
open Go.Em
variable {a:ASt}{op:BinOp}{i:I}{k:IntKind}{x y:Lin}{σ:St}
variable {T:Tab} {n:Nat} {ρ:Rho}
theorem zkW (k:IntKind)(x y:Int):kH .add (.int k x) (.int k y)=some (.int k (k.wrap (x+y))):=by simp [kH,binOp,Op.intArith,bW];rfl
theorem zkH (k:IntKind)(x y:Int):kH .sub (.int k x) (.int k y)=some (.int k (k.wrap (x-y))):=by simp [kH,binOp,Op.intArith,bW];rfl
theorem zkO (k:IntKind)(x y:Int):kH .mul (.int k x) (.int k y)=some (.int k (k.wrap (x*y))):=by simp [kH,binOp,Op.intArith,bW];rfl
theorem zkM (k:IntKind)(x y:Int)(h:y≠0):kH .quo (.int k x) (.int k y)=some (.int k (k.wrap (x.tdiv y))):=by simp [kH,binOp,Op.intDiv,bW,h];rfl
theorem zkL (k:IntKind)(x y:Int)(h:y≠0):kH .rem (.int k x) (.int k y)=some (.int k (x.tmod y)):=by simp [kH,binOp,Op.intDiv,bW,h];rfl
theorem zkK (k k':IntKind)(x y:Int)(h:¬y<0):kH .shl (.int k x) (.int k' y)=some (.int k (k.wrap (x*2^min y.toNat k.bits))):=by simp [kH,binOp,Op.shift,bW,h];rfl
theorem zkJ (k k':IntKind)(x y:Int)(h:¬y<0):kH .shr (.int k x) (.int k' y)=some (.int k (x.fdiv (2^min y.toNat k.bits))):=by simp [kH,binOp,Op.shift,bW,h];rfl
theorem zkT (k:IntKind)(x y:Int):kH .eql (.int k x) (.int k y)=some (.bool (x==y)):=by simp [kH,binOp,Op.intCmp,bW];rfl
theorem zkN (k:IntKind)(x y:Int):kH .neq (.int k x) (.int k y)=some (.bool (x !=y)):=by simp [kH,binOp,Op.intCmp,bW];rfl
theorem zkP (k:IntKind)(x y:Int):kH .lss (.int k x) (.int k y)=some (.bool (x<y)):=by simp [kH,binOp,Op.intCmp,bW];rfl
theorem zkQ (k:IntKind)(x y:Int):kH .leq (.int k x) (.int k y)=some (.bool (x<=y)):=by simp [kH,binOp,Op.intCmp,bW];rfl
theorem zkR (k:IntKind)(x y:Int):kH .gtr (.int k x) (.int k y)=some (.bool (x>y)):=by simp [kH,binOp,Op.intCmp,bW];rfl
theorem zkS (k:IntKind)(x y:Int):kH .geq (.int k x) (.int k y)=some (.bool (x>=y)):=by simp [kH,binOp,Op.intCmp,bW];rfl
def zf8:BinOp->Bool
 |.and|.or|.xor|.andNot=>true
 |_=>false
theorem zfb (k:IntKind)(x y:Int)(h:zf8 op=true):∃z,kH op (.int k x) (.int k y)=some (.int k (k.wrap z)):=by
 cases op<;>first
  |exact absurd h (by decide)
  |exact ⟨((BitVec.ofInt k.bits x&&& BitVec.ofInt k.bits y).toNat:Int),by simp only [kH,binOp,Op.intBits,ne_eq,not_true_eq_false,if_false];rfl⟩
  |exact ⟨((BitVec.ofInt k.bits x|||BitVec.ofInt k.bits y).toNat:Int),by simp only [kH,binOp,Op.intBits,ne_eq,not_true_eq_false,if_false];rfl⟩
  |exact ⟨((BitVec.ofInt k.bits x^^^BitVec.ofInt k.bits y).toNat:Int),by simp only [kH,binOp,Op.intBits,ne_eq,not_true_eq_false,if_false];rfl⟩
  |exact ⟨((BitVec.ofInt k.bits x&&& ~~~BitVec.ofInt k.bits y).toNat:Int),by simp only [kH,binOp,Op.intBits,ne_eq,not_true_eq_false,if_false];rfl⟩
def zdO:BinOp->Bool
 |.eql|.neq|.lss|.leq|.gtr|.geq=>true
 |_=>false
theorem zkI (x y:qaZ)(h:zdO op=true):∃b,kH op (.string x) (.string y)=some (.bool b):=by
 cases op<;>first
  |exact absurd h (by decide)
  |exact ⟨_,rfl⟩
theorem zkV (x y:qaZ)(h:((x.size+y.size:Nat):Int)<=9223372036854775807):kH .add (.string x) (.string y)=some (.string (x++y)):=by
 have h2:¬((x.size+y.size:Nat):Int)>IntKind.i64.max:=by
  have:IntKind.i64.max=9223372036854775807:=by decide
  omega
 simp only [kH,binOp,Op.stringOp,if_neg h2];rfl
theorem zl9 (k:IntKind)(x:Int):unV .neg (.int k x)=some (.int k (k.wrap (0-x))):=by simp [unV,Op.unary,Op.intArith,bW];rfl
theorem zl7 (k:IntKind)(x:Int):∃z,unV .xor (.int k x)=some (.int k (k.wrap z)):=by exact ⟨((BitVec.ofInt k.bits (if k.signed then -1 else k.max)^^^BitVec.ofInt k.bits x).toNat:Int),rfl⟩
theorem zl8 (b:Bool):unV .not (.bool b)=some (.bool !b):=by simp [unV,Op.unary,bW];rfl
def nonneg (F:List Fact)(l:Lin):Bool:=leL F (.k 0) l
def zp1 (a:ASt)(k:IntKind)(x y:Lin):Out:=
 match low a.F x,low a.F y,high a.F x,high a.F y with
 |some lx,some ly,some hx,some hy=>if leI 0 lx&&leI 0 ly&&leI (hx*hy) (Zy k) then Xi a k (bnd ⟨a.nx,0⟩ (some (lx*ly)) (some (hx*hy))) else anyI a k
 |_,_,_,_=>anyI a k
theorem Zx (k:IntKind):zbW k<=0:=by cases k<;>decide
theorem lU (hr:R T ρ a σ)(z:Int):upd ρ a.nx z 0=0:=by rw [KQ hr.pos];exact hr.zero
theorem zh5 (hr:R T ρ a σ)(hs:∀Γ,aG Γ σ i=some (.v (.int k (k.wrap (x.v ρ*y.v ρ))),σ.bx,fp0)):dR T ρ a σ i [zp1 a k x y]:=by
 unfold zp1;split
 ·rename_i lx ly hx' hy' e1 e2 e3 e4;have b1:=vX hr.zero hr.F e1;have b2:=vX hr.zero hr.F e2;have b3:=jG hr.zero hr.F e3;have b4:=jG hr.zero hr.F e4;split;next hc=>simp [jE] at hc;obtain ⟨⟨c1,c2⟩,c3⟩:=hc;have d1:=Int.mul_le_mul b1 b2 c2 (by omega);have d2:=Int.mul_le_mul b3 b4 (by omega) (by omega);have d3:=Int.mul_nonneg c1 c2;have:=Zx k;exact lD hr (wV (lU hr _) (Nat.succ_pos _) (qae _) (by rw [dN];intro a e;cases e;exact d1) (by grind[dN])) (fun Γ=>by grind[Aq])
  exact lS hr (kS k _) (kT k _) hs
 exact lS hr (kS k _) (kT k _) hs
def zpR (a:ASt)(k:IntKind)(x:Lin):Out:=
 if nonneg a.F x&&leL a.F x (.k (Zy k)) then Xi a k [aj (.k 0) ⟨a.nx,0⟩,aj ⟨a.nx,0⟩ x] else anyI a k
theorem zhE {z:Int}(hr:R T ρ a σ)(hx:x.s<a.nx)(h1:0<=x.v ρ->0<=z/\z<=x.v ρ)(hs:∀Γ,aG Γ σ i=some (.v (.int k (k.wrap z)),σ.bx,fp0)):dR T ρ a σ i [zpR a k x]:=by
 unfold zpR;split
 ·rename_i hc;rw [qab] at hc;have c1:=aU hr.F hc.1;have c2:=aU hr.F hc.2;rw [Lin.k_v hr.zero] at c1 c2;obtain ⟨h2,h3⟩:=h1 c1;have:=Zx k;have hm:=gq ρ a.nx z;refine lD hr (z:=z) (aX.cons ?_ (aX.cons ?_ .nil)) (fun Γ=>by grind[Aq]);·exact aJ.2 ⟨Nat.succ_pos _,qae _,by grind[dN,Lin.k_v,lU]⟩
  exact aJ.2 ⟨qae _,qaB hx,by rw [dN,hm.lin hx]<;>grind⟩
 exact lS hr (kS k _) (kT k _) hs
def zpN (a:ASt)(k:IntKind)(x y:Lin):Out:=
 if nonneg a.F x then Xi a k [aj (.k 0) ⟨a.nx,0⟩,aj ⟨a.nx,0⟩ x,aj ⟨a.nx,0⟩ (y.up (-1))]
 else Xi a k (aj ⟨a.nx,0⟩ (y.up (-1))::(match high a.F y with|some h=>bnd ⟨a.nx,0⟩ (some (1-h)) none|none=>[]))
theorem zhC (hr:R T ρ a σ)(hx:x.s<a.nx)(hy:y.s<a.nx)(h1:1<=y.v ρ)(hs:∀Γ,aG Γ σ i=some (.v (.int k ((x.v ρ).tmod (y.v ρ))),σ.bx,fp0)):dR T ρ a σ i [zpN a k x y]:=by
 have hm:=gq ρ a.nx ((x.v ρ).tmod (y.v ρ));have u1:(x.v ρ).tmod (y.v ρ)<y.v ρ:=Int.tmod_lt_of_pos _ (by omega);have hlt:(aj ⟨a.nx,0⟩ (y.up (-1))).ok (a.nx+1) (upd ρ a.nx ((x.v ρ).tmod (y.v ρ))):=aJ.2 ⟨qae _,qaB hy,by rw [dN,Lin.mQ,hm.lin hy];omega⟩;unfold zpN;split
 ·rename_i hc;have c1:=aU hr.F hc;rw [Lin.k_v hr.zero] at c1;have u2:0<=(x.v ρ).tmod (y.v ρ):=Int.tmod_nonneg _ c1;have u3:(x.v ρ).tmod (y.v ρ)<=x.v ρ:=by
   rw [Int.tmod_eq_emod_of_nonneg c1];by_cases hlt:x.v ρ<y.v ρ
   ·grind[Int.emod_eq_of_lt]
   ·grind
  refine lD hr (aX.cons ?_ (aX.cons ?_ (aX.cons hlt .nil))) hs;·exact aJ.2 ⟨Nat.succ_pos _,qae _,by grind[dN,Lin.k_v,lU]⟩
  exact aJ.2 ⟨qae _,qaB hx,by rw [dN,hm.lin hx]<;>grind⟩
 refine lD hr (aX.cons hlt ?_) hs;split;next h e=>have b:=jG hr.zero hr.F e;have u4:-(y.v ρ)<(x.v ρ).tmod (y.v ρ):=Int.lt_tmod_of_pos _ (by omega);exact wV (lU hr _) (Nat.succ_pos _) (qae _) (by grind[dN]) (by grind)
 exact .nil
def zpF (a:ASt)(k:IntKind)(x:Lin):Out:=
 if nonneg a.F x then Xi a k [aj (.k 0) ⟨a.nx,0⟩,aj ⟨a.nx,0⟩ x] else Xi a k []
theorem QB {x:Int}(h:0<=x)(m:Nat):0<=x.fdiv (2^m)/\x.fdiv (2^m)<=x:=by have hp:(0:Int)<2^m:=Int.pow_pos (by decide);rw [Int.fdiv_eq_ediv_of_nonneg _ (by omega)];exact ⟨Int.ediv_nonneg h (by omega),Int.ediv_le_self _ h⟩
theorem zhg {m:Nat}(hr:R T ρ a σ)(hx:x.s<a.nx)(hs:∀Γ,aG Γ σ i=some (.v (.int k ((x.v ρ).fdiv (2^m))),σ.bx,fp0)):dR T ρ a σ i [zpF a k x]:=by
 have hm:=gq ρ a.nx ((x.v ρ).fdiv (2^m));unfold zpF;split
 ·rename_i hc;have c1:=aU hr.F hc;rw [Lin.k_v hr.zero] at c1;obtain ⟨h2,h3⟩:=QB c1 m;refine lD hr (aX.cons ?_ (aX.cons ?_ .nil)) hs;·exact aJ.2 ⟨Nat.succ_pos _,qae _,by grind[dN,Lin.k_v,lU]⟩
  exact aJ.2 ⟨qae _,qaB hx,by rw [dN,hm.lin hx]<;>grind⟩
 exact lD hr .nil hs
def zpe (F:List Fact)(op:BinOp)(x y:Lin):List Fact×List Fact:=
 let ne:=if leL F x y then [aj (x.up 1) y] else if leL F y x then [aj (y.up 1) x] else []
 match op with
 |.eql=>([aj x y,aj y x],ne)
 |.neq=>(ne,[aj x y,aj y x])
 |.lss=>([aj (x.up 1) y],[aj y x])
 |.leq=>([aj x y],[aj (y.up 1) x])
 |.gtr=>([aj (y.up 1) x],[aj x y])
 |.geq=>([aj y x],[aj (x.up 1) y])
 |_=>([],[])
theorem eY (hx:x.s<n)(hy:y.s<n)(h:x.v ρ<=y.v ρ):aX n ρ [aj x y]:=aX.cons (aJ.2 ⟨hx,hy,h⟩) .nil
theorem zku (hr:R T ρ a σ)(hx:x.s<a.nx)(hy:y.s<a.nx)(hop:zdO op=true)(hs:∀Γ b,kH op (.int k (x.v ρ)) (.int k (y.v ρ))=some b->aG Γ σ i=some (.v b,σ.bx,fp0)):
  dR T ρ a σ i [(.b (zpe a.F op x y).1 (zpe a.F op x y).2,a,fp0)]:=by
 have hne:x.v ρ≠y.v ρ->aX a.nx ρ (if leL a.F x y then [aj (x.up 1) y] else if leL a.F y x then [aj (y.up 1) x] else []):=fun hne=>by
  split;next h=>have:=aU hr.F h;exact eY hx hy (by grind[Lin.mQ])
  split;next h=>have:=aU hr.F h;exact eY hy hx (by grind[Lin.mQ])
  exact .nil
 have heq:x.v ρ=y.v ρ->aX a.nx ρ [aj x y,aj y x]:=fun e=>aX.cons (aJ.2 ⟨hx,hy,by omega⟩) (eY hy hx (by omega));cases op<;>first
  |exact absurd hop (by decide)
  |skip
 ·refine .one hr (.b (fun h=>heq (eq_of_beq h)) (fun h=>hne (by grind))) (fun Γ=>hs Γ _ (zkT ..))
 ·refine .one hr (.b (fun h=>hne (by grind)) (fun h=>heq (by grind))) (fun Γ=>hs Γ _ (zkN ..))
 ·refine .one hr (.b (fun h=>eY hx hy ?_) (fun h=>eY hy hx ?_)) (fun Γ=>hs Γ _ (zkP ..));·have:=of_decide_eq_true h;grind[Lin.mQ]
  grind
 ·refine .one hr (.b (fun h=>eY hx hy ?_) (fun h=>eY hy hx ?_)) (fun Γ=>hs Γ _ (zkQ ..))
  ·grind
  grind[Lin.mQ]
 ·refine .one hr (.b (fun h=>eY hy hx ?_) (fun h=>eY hx hy ?_)) (fun Γ=>hs Γ _ (zkR ..));·have:=of_decide_eq_true h;grind[Lin.mQ]
  grind
 refine .one hr (.b (fun h=>eY hy hx ?_) (fun h=>eY hx hy ?_)) (fun Γ=>hs Γ _ (zkS ..))
 ·grind
 grind[Lin.mQ]
end Go.Ab
namespace Go.Ab
open Go.Em
variable {a:ASt}{y z:AX}{op:BinOp}{i:I}{x:Lin}{fs:List Fact}{l m outs:List Out}{σ:St}
variable {T:Tab} {n:Nat} {ρ:Rho}
def contra (F:List Fact)(f:Fact):Bool:=leL F ⟨f.y,f.c+1⟩ ⟨f.x,0⟩
def newF (F fs:List Fact):List Fact:=fs.filter fun f=>!leL F ⟨f.x,0⟩ ⟨f.y,f.c⟩
def assume (a:ASt)(fs:List Fact):Option ASt:=if fs.any (contra a.F) then none else some {a with F:=newF a.F fs++a.F}
theorem jY (hr:R T ρ a σ)(hf:aX a.nx ρ fs):∃a',assume a fs=some a'/\R T ρ a' σ/\a'.nx=a.nx:=by
 have h:fs.any (contra a.F)=false:=by
  cases hc:fs.any (contra a.F) with
  |false=>rfl
  |true=>obtain ⟨f,h1,h2⟩:=List.any_eq_true.1 hc;have h3:=aU hr.F h2;have h4:=(hf f h1).2.2;unfold Lin.v at h3;dsimp only at h3;omega
 unfold assume;rw [if_neg (by rw [h];decide)];exact ⟨_,rfl,hr.zxe (fun f hm=>hf f (List.mem_filter.1 hm).1),rfl⟩
def outOf (o:Option ASt)(y:AX):List Out:=match o with
 |some a=>[(y,a,fp0)]
 |none=>[]
theorem dR.left (h:dR T ρ a σ i l):dR T ρ a σ i (l++m):=by obtain ⟨o,ho,r⟩:=h;exact ⟨o,List.mem_append_left _ ho,r⟩
theorem dR.right (h:dR T ρ a σ i m):dR T ρ a σ i (l++m):=by obtain ⟨o,ho,r⟩:=h;exact ⟨o,List.mem_append_right _ ho,r⟩
theorem rZ {x:X}(hr:R T ρ a σ)(hf:aX a.nx ρ fs)(hg:G T a.nx ρ y x)(hs:∀Γ,aG Γ σ i=some (x,σ.bx,fp0)):dR T ρ a σ i (outOf (assume a fs) y):=by obtain ⟨a',h1,h2,h3⟩:=jY hr hf;rw [h1];have hm:More a.nx ρ a'.nx ρ:=⟨by omega,fun _ _=>rfl⟩;exact ⟨_,qaa.2 rfl,ρ,x,σ.bx,hm,h2,hg.more hm,hs⟩
def zmY (a:ASt):AX->AX->AX->Option (List Out)
 |.b tf ff,x,y=>some (outOf (assume a tf) x++outOf (assume a ff) y)
 |_,_,_=>none
def XT:AX->Option Lin
 |.s l=>some l
 |.x (.v (.string bs))=>some (.k bs.size)
 |_=>none
theorem o7 (h0:ρ 0=0)(hn:0<n){x:X}{l:Lin}(hg:G T n ρ y x)(h:XT y=some l):∃bs:qaZ,x=.v (.string bs)/\(bs.size:Int)=l.v ρ/\l.s<n:=by
 unfold XT at h;split at h
 ·cases h;cases hg with
  |s h1 h2=>exact ⟨_,rfl,h2,h1⟩
 ·cases h;cases hg;exact ⟨_,rfl,(Lin.k_v h0 _).symm,hn⟩
 cases h
def zrL (a:ASt)(x y:Lin):Option Out:=
 match Xc x y with
 |some l=>if leL a.F l (.k 9223372036854775807) then some (.s l,a,fp0) else none
 |none=>match high a.F x,high a.F y with
  |some hx,some hy=>if leI (hx+hy) 9223372036854775807&&nonneg a.F x&&nonneg a.F y then
    some (zp0 a ⟨a.nx,0⟩ [aj x ⟨a.nx,0⟩,aj y ⟨a.nx,0⟩,aj ⟨a.nx,0⟩ (x.up hy),aj ⟨a.nx,0⟩ (y.up hx)]) else none
  |_,_=>none
theorem ze6 (x y:qaZ):(x++y).size=x.size+y.size:=ByteArray.size_append
theorem zkC {y:Lin}{o:Out}{bx bz:qaZ}(hr:R T ρ a σ)(hx:x.s<a.nx)(hy:y.s<a.nx)(h1:(bx.size:Int)=x.v ρ)(h2:(bz.size:Int)=y.v ρ)
  (hs:((bx.size+bz.size:Nat):Int)<=9223372036854775807->∀Γ,aG Γ σ i=some (.v (.string (bx++bz)),σ.bx,fp0)) (h:zrL a x y=some o):dR T ρ a σ i [o]:=by
 have hz:=ze6 bx bz;unfold zrL at h;split at h
 ·rename_i l e;split at h;next hc=>cases h;have c:=aU hr.F hc;rw [Lin.k_v hr.zero] at c;have e2:=qg hr.zero e;exact .one hr (.s (Ec e hx hy) (by rw [hz];omega)) (hs (by omega))
  cases h
 split at h
 ·rename_i hx' hy' e1 e2;split at h
  ·rename_i hc;cases h;simp only [qab,jE] at hc;obtain ⟨⟨c1,c2⟩,c3⟩:=hc;have b1:=jG hr.zero hr.F e1;have b2:=jG hr.zero hr.F e2;have hm:=gq ρ a.nx ((bx++bz).size:Int);have hq:=hr.more hm;refine ⟨_,qaa.2 rfl,upd ρ a.nx ((bx++bz).size:Int),_,σ.bx,hm,⟨hq.zero,hq.pos,aX.append ?_ hq.F,hq.tm,hq.bx⟩,.s (qae _) dN.symm,hs (by omega)⟩;refine aX.cons ?_ (aX.cons ?_ (aX.cons ?_ (aX.cons ?_ .nil)));·exact aJ.2 ⟨qaB hx,qae _,by rw [dN,hm.lin hx,hz];omega⟩
   ·exact aJ.2 ⟨qaB hy,qae _,by rw [dN,hm.lin hy,hz];omega⟩
   ·exact aJ.2 ⟨qae _,qaB hx,by rw [Lin.mQ,dN,hm.lin hx,hz];omega⟩
   exact aJ.2 ⟨qae _,qaB hy,by rw [Lin.mQ,dN,hm.lin hy,hz];omega⟩
  cases h
 cases h
def isAdd:BinOp->Bool
 |.add=>true
 |_=>false
def zrP (a:ASt)(op:BinOp)(k k':IntKind)(x y:Lin):Option (List Out):=
 match op with
 |.shl=>if nonneg a.F y then some [anyI a k] else none
 |.shr=>if nonneg a.F y then some [zpF a k x] else none
 |op=>if k=k' then
   match op with
   |.add=>some [zsf a k x y]
   |.sub=>some [zoG a k x y]
   |.mul=>some [zp1 a k x y]
   |.quo=>if leL a.F (.k 1) y then some [zpR a k x] else none
   |.rem=>if leL a.F (.k 1) y then some [zpN a k x y] else none
   |op=>if zf8 op then some [anyI a k] else if zdO op then some [(.b (zpe a.F op x y).1 (zpe a.F op x y).2,a,fp0)] else none
  else none
def za8 (op:BinOp)(l m:Lin):AX->AX
 |.x (.v (.string ⟨⟨[]⟩⟩))=>match op with
  |.eql=>.b [aj l (.k 0)] [aj (.k 1) l]
  |.neq=>.b [aj (.k 1) l] [aj l (.k 0)]
  |_=>.b [] []
 |_=>(fun _=>.b [] []) m
def zrO (a:ASt)(op:BinOp):AX->AX->Option (List Out)
 |.i k x,.i k' y=>zrP a op k k' x y
 |.x (.v (.string p)),.x (.v (.string q))=>match kH op (.string p) (.string q) with
  |some (.bool b)=>some [(cb b,a,fp0)]
  |some (.string r)=>some [(.x (.v (.string r)),a,fp0)]
  |_=>none
 |x,y=>match XT x,XT y with
  |some l,some m=>if zdO op then some [(za8 op l m y,a,fp0)] else if isAdd op then (zrL a l m).map fun o=>[o] else none
  |_,_=>none
theorem Oh {x y:Int}(h:0<=x)(hy:1<=y):0<=x.tdiv y/\x.tdiv y<=x:=by rw [Int.tdiv_eq_ediv_of_nonneg h];exact ⟨Int.ediv_nonneg h (by omega),Int.ediv_le_self _ h⟩
theorem jg (hr:R T ρ a σ){l:Lin}(h:nonneg a.F l=true):0<=l.v ρ:=by have:=aU hr.F h;rw [Lin.k_v hr.zero] at this;exact this
theorem zkZ {k k':IntKind}{y:Lin}(hr:R T ρ a σ)(hx:x.s<a.nx)(hy:y.s<a.nx)(hs:∀Γ b,kH op (.int k (x.v ρ)) (.int k' (y.v ρ))=some b->aG Γ σ i=some (.v b,σ.bx,fp0))(h:zrP a op k k' x y=some outs):dR T ρ a σ i outs:=by
 unfold zrP at h;split at h
 ·split at h;next hc=>cases h;have:=jg hr hc;exact lS hr (kS k _) (kT k _) (fun Γ=>hs Γ _ (zkK k k' _ _ (by omega)))
  cases h
 ·split at h;next hc=>cases h;have:=jg hr hc;exact zhg hr hx (fun Γ=>hs Γ _ (zkJ k k' _ _ (by omega)))
  cases h
 split at h
 ·rename_i hk;subst hk;split at h;·cases h;exact zlj hr hx hy (fun Γ=>hs Γ _ (zkW ..))
  ·cases h;exact XR hr hx hy (fun Γ=>hs Γ _ (zkH ..))
  ·cases h;exact zh5 hr (fun Γ=>hs Γ _ (zkO ..))
  ·split at h;next hc=>cases h;have c:=aU hr.F hc;rw [Lin.k_v hr.zero] at c;exact zhE hr hx (fun h0=>Oh h0 c) (fun Γ=>hs Γ _ (zkM _ _ _ (by omega)))
   cases h
  ·split at h;next hc=>cases h;have c:=aU hr.F hc;rw [Lin.k_v hr.zero] at c;exact zhC hr hx hy c (fun Γ=>hs Γ _ (zkL _ _ _ (by omega)))
   cases h
  split at h;next hb=>cases h;obtain ⟨z,hz⟩:=zfb k (x.v ρ) (y.v ρ) hb;exact lS hr (kS k z) (kT k z) (fun Γ=>hs Γ _ hz)
  split at h;next hcmp=>cases h;exact zku hr hx hy hcmp hs
  cases h
 cases h
theorem zkU (b:qaZ)(op:BinOp)(t:Bool)(h:kH op (.string b) (.string ⟨⟨[]⟩⟩)=some (.bool t)):(op=.eql->t=decide (b.size=0))/\(op=.neq->t=!decide (b.size=0)):=by
 have key:(b.toList==(⟨⟨[]⟩⟩:qaZ).toList)=decide (b.size=0):=by
  have e:b.toList=b.data.toList:=ByteArray.toList_eq b;have e0:(⟨⟨[]⟩⟩:qaZ).toList=[]:=ByteArray.toList_eq _;rw [e,e0];obtain ⟨⟨l⟩⟩:=b;cases l with
  |nil=>rfl
  |cons c r=>rw [decide_eq_false (by simp [ByteArray.size])];rfl
 constructor
 ·rintro rfl
  have h1:(Value.bool (b.toList==(⟨⟨[]⟩⟩:qaZ).toList))=.bool t:=Option.some.inj h;rw [key] at h1;exact (Value.bool.inj h1).symm
 rintro rfl
 have h1:(Value.bool (!(b.toList==(⟨⟨[]⟩⟩:qaZ).toList)))=.bool t:=Option.some.inj h;rw [key] at h1;exact (Value.bool.inj h1).symm
theorem za7 (hr:R T ρ a σ){l m:Lin}{b1 b2:qaZ}(g2:G T a.nx ρ z (.v (.string b2)))(z1:(b1.size:Int)=l.v ρ)(l1:l.s<a.nx){t:Bool}(hb:kH op (.string b1) (.string b2)=some (.bool t)):G T a.nx ρ (za8 op l m z) (.v (.bool t)):=by
 have triv:G T a.nx ρ (.b [] []) (.v (.bool t)):=.b (fun _=>.nil) (fun _=>.nil);unfold za8;split
 ·cases g2 with
  |x _=>
   obtain ⟨k1,k2⟩:=zkU b1 op t hb;have up:b1.size=0->aX a.nx ρ [aj l (.k 0)]:=fun h=>aX.cons (aJ.2 ⟨l1,hr.pos,by rw [Lin.k_v hr.zero,<-z1];omega⟩) .nil;have lo:¬b1.size=0->aX a.nx ρ [aj (.k 1) l]:=fun h=>aX.cons (aJ.2 ⟨hr.pos,l1,by rw [Lin.k_v hr.zero,<-z1];omega⟩) .nil;split;·have:=k1 rfl;exact .b (fun ht=>up (by rw [ht] at this;exact of_decide_eq_true this.symm)) (fun ht=>lo (by rw [ht] at this;exact of_decide_eq_false this.symm))
   ·have:=k2 rfl;exact .b (fun ht=>lo (by rw [ht] at this;simpa using this.symm)) (fun ht=>up (by rw [ht] at this;simpa using this.symm))
   exact triv
 exact triv
theorem zkX {ox oy:Opd}{p q:X}(hr:R T ρ a σ)(e1:σ.ev ox=some p)(e2:σ.ev oy=some q)(g1:G T a.nx ρ y p)(g2:G T a.nx ρ z q)(h:zrO a op y z=some outs):dR T ρ a σ (.bin op ox oy) outs:=by
 have hs:∀(u v w:Value),p=.v u->q=.v v->kH op u v=some w->∀Γ,aG Γ σ (.bin op ox oy)=some (.v w,σ.bx,fp0):=fun u v w h1 h2 h3 Γ=>by subst h1;subst h2;simp only [aG,e1,e2,h3,qao];rfl
 unfold zrO at h;split at h
 ·cases g1 with
  |i h1 h2=>
   cases g2 with
   |i h3 h4=>subst h2;subst h4;exact zkZ hr h1 h3 (fun Γ b hb=>hs _ _ b rfl rfl hb Γ) h
 ·cases g1;cases g2;split at h;next b hb=>cases h;exact .one hr (zU b) (hs _ _ _ rfl rfl hb)
  next r hb=>cases h;exact .one hr (.x rfl) (hs _ _ _ rfl rfl hb)
  cases h
 split at h
 ·rename_i l m s1 s2;obtain ⟨b1,rfl,z1,l1⟩:=o7 hr.zero hr.pos g1 s1;obtain ⟨b2,rfl,z2,l2⟩:=o7 hr.zero hr.pos g2 s2;split at h;next hc=>cases h;obtain ⟨b,hb⟩:=zkI b1 b2 hc;exact .one hr (za7 hr g2 z1 l1 hb) (hs _ _ _ rfl rfl hb)
  split at h
  ·rename_i hadd;obtain ⟨o,ho,rfl⟩:=qac.1 h;have:op=.add:=by cases op<;>first|rfl|cases hadd
   subst this;exact zkC hr l1 l2 z1 z2 (fun hsz=>hs _ _ _ rfl rfl (zkV b1 b2 hsz)) ho
  cases h
 cases h
end Go.Ab
