/-.-/
import Derived.Laws.AppendOwn
import Derived.Laws.Strings
import Derived.Test.YtcbeoccmflnejaaGreatDoorEmU8
set_option linter.all false
namespace Go.Em
open Go.RowKit
section
variable {P:Program} {R:CodeRel} {w w':World}
theorem frame_of_below (h:Below w.heap.size w w'):FrameOk nowhere w w':=
 ⟨h.os,h.tape,h.output,h.size,fun b a=>.inr (.inl (h.block b a).symm)⟩
def intRow (zs:List Int):qaW:=zs.map fun z=>[.v (.int .i64 z)]
theorem fsem_ints {f:FuncId}{args:List X}{inb:List Bx}{el:TypeId}(zs:List Int)(h:∀(cargs:Array Value) (w:World) (K:Kn) (C:List CB),Inv P R K C inb w->ArgsRep K C args cargs->
  Calls P f cargs w fun e w'=>∃v',e=.returned v'/\w'.ownsRow w.heap.size el 1 v' zs.length (zs.map (Value.int .i64))/\Below w.heap.size w w'):FSem P R f args inb (.bs inb.length 0 zs.length) (inb++[.row 1 (intRow zs)]):=by
 intro K C w cargs F ha;refine (h cargs w K C F ha).mono ?_
 rintro e w' ⟨v',rfl,⟨Z,L⟩,O⟩
 have Y:=frame_of_below O;have S:=F.still Y;have U:(intRow zs).length=zs.length:=by simp [intRow]
 have M:=F.size;have N:∀c:CB,BoxOk P R K (C++[c]) w' (.row 1 (intRow zs)) c->(∀b o,c.owns b o->w.heap.size<=b)->Rep K (C++[c]) (.bs inb.length 0 zs.length) v'->Post P R K C inb w (.bs inb.length 0 zs.length) (inb++[.row 1 (intRow zs)]) (.returned v') w':=by
  intro c H m J;refine ⟨v',K,[c],rfl,S.push H (fun b o a=>?_) (fun b o a V=>?_),J,KLe.refl _,fun b o v e=>.inl e,fun b o a=>?_,Y.mono (fun b o _ hs=>hs.elim),fun i B O U=>⟨B,?_,U⟩⟩
  ·cases hk:K b o with
   |none=>rfl
   |some u=>have:=F.known_lt hk;have:=m b o a;omega
  ·have:=F.owns_lt V;have:=m b o a;omega
  ·rcases owns_push (by simpa using M) a with a|a;·exact .inl a
   exact .inr (m b o a)
  rw [qar (qak.1 O).1];exact O
 have l:∀c:CB,(C++[c])[inb.length]?=some c:=fun c=>by rw [<-M];simp
 rcases L with ⟨rfl,hn⟩|⟨g,n,y,rfl,hg,hc,A,pa,W,E⟩;·have:zs=[]:=qaP hn;subst this;exact N .ghost rfl (fun b o a=>a.elim) (.bsNil (l _))
 refine N (.at g 0 n 1) ⟨rfl,by rw [U];omega,fun e he=>?_,y,el,hc,by omega,fun i j x q=>?_⟩ (fun b o a=>by rw [a.1];exact hg) ?_;·obtain ⟨z,_,rfl⟩:=qam.1 he;rfl
 ·have:j=0/\∃z,zs[i]?=some z/\x=.v (.int .i64 z):=by
   simp only [at2,intRow,qaA] at q;cases hz:zs[i]? with
   |none=>rw [hz] at q;simp at q
   |some z=>
    rw [hz] at q;simp only [qao,Option.bind_some] at q;cases j with
    |zero=>simp at q;exact ⟨rfl,z,rfl,q.symm⟩
    |succ j=>simp at q
  obtain ⟨rfl,z,hz,rfl⟩:=this;refine ⟨rfl,.int .i64 z,?_,.v rfl⟩;have hi:i<zs.length:=(qak.1 hz).1;have Q:(y.toList.take (zs.length*1))[i]?=some (.int .i64 z):=by rw [E,qaA,hz];rfl
  rw [qax] at Q;rw [if_pos (by omega)] at Q;have h2:y[i]?=some (.int .i64 z):=by rw [<-Array.getElem?_toList];exact Q
  simpa using h2
 have:=@Rep.bs K (C++[.at g 0 n 1]) inb.length 0 zs.length g 0 n 1 n (l _) (by omega) A;simpa using this
end
section
variable {P:Program} {R:CodeRel} {w w':World}
theorem fsem_none {f:FuncId}{args:List X}{inb:List Bx}{el:TypeId}{k:Nat}{cargs:Array Value}{K:Kn}{C:List CB}(hI:Inv P R K C inb w)
  (h:Calls P f cargs w fun e w'=>∃v',e=.returned v'/\w'.ownsRow w.heap.size el k v' 0 []/\Below w.heap.size w w'):Calls P f cargs w (Post P R K C inb w (.bs inb.length 0 0) (inb++[.row k []])):=by
 refine h.mono ?_
 rintro e w' ⟨v',rfl,⟨U,E⟩,J⟩
 have S:=frame_of_below J;have M:=hI.still S;have F:=hI.size;have H:∀c:CB,BoxOk P R K (C++[c]) w' (.row k []) c->(∀b o,c.owns b o->w.heap.size<=b)->Rep K (C++[c]) (.bs inb.length 0 0) v'->Post P R K C inb w (.bs inb.length 0 0) (inb++[.row k []]) (.returned v') w':=by
  intro c y m A;refine ⟨v',K,[c],rfl,M.push y (fun b o a=>?_) (fun b o a N=>?_),A,KLe.refl _,fun b o v e=>.inl e,fun b o a=>?_,S.mono (fun b o _ hs=>hs.elim),fun i B J hl=>⟨B,?_,hl⟩⟩
  ·cases hk:K b o with
   |none=>rfl
   |some u=>have:=hI.known_lt hk;have:=m b o a;omega
  ·have:=hI.owns_lt N;have:=m b o a;omega
  ·rcases owns_push (by simpa using F) a with a|a;·exact .inl a
   exact .inr (m b o a)
  rw [qar (qak.1 J).1];exact J
 have l:∀c:CB,(C++[c])[inb.length]?=some c:=fun c=>by rw [<-F];simp
 rcases E with ⟨rfl,hn⟩|⟨g,n,L,rfl,Z,W,q,V,O,Q⟩;·exact H .ghost rfl (fun b o a=>a.elim) (.bsNil (l _))
 refine H (.at g 0 (n*k) k) ⟨rfl,by simp,fun e Y=>by simp at Y,L,el,W,by omega,fun i j x hx=>by simp [at2] at hx⟩ (fun b o a=>by rw [a.1];exact Z) ?_;have:=@Rep.bs K (C++[.at g 0 (n*k) k]) inb.length 0 0 g 0 (n*k) k n (l _) (by simp) q;simpa using this
end
end Go.Em
namespace Go.Ab
open Go.Em
section
variable {h z:Int}{cs:List X}{j n n':Nat}{P:Nat->List X->Prop}{x:X}
structure Lin where
 s:Nat
 c:Int
 deriving Inhabited,DecidableEq
variable {a b:Lin}
abbrev Rho:=Nat->Int
variable {ρ ρ':Rho}
def Lin.v (l:Lin)(ρ:Rho):Int:=ρ l.s+l.c
def Lin.k (c:Int):Lin:=⟨0,c⟩
def Lin.up (l:Lin)(d:Int):Lin:=⟨l.s,l.c+d⟩
structure Fact where
 x:Nat
 y:Nat
 c:Int
 deriving Inhabited,DecidableEq
variable {F:List Fact}
def Fact.ok (n:Nat)(ρ:Rho)(f:Fact):Prop:=f.x<n/\f.y<n/\ρ f.x<=ρ f.y+f.c
def aV (n:Nat)(ρ:Rho)(F:List Fact):Prop:=∀f,f∈F->f.ok n ρ
theorem Lin.jI (l:Lin)(d:Int)(ρ:Rho):(l.up d).v ρ=l.v ρ+d:=by grind[Lin.up,Lin.v]
theorem Lin.k_v (h:ρ 0=0)(c:Int):(Lin.k c).v ρ=c:=by grind[Lin.k,Lin.v]
def leI:Int->Int->Bool
 |.ofNat a,.ofNat b=>Nat.ble a b
 |.ofNat _,.negSucc _=>false
 |.negSucc _,.ofNat _=>true
 |.negSucc a,.negSucc b=>Nat.ble b a
theorem gX {a b:Int}:leI a b=true↔a<=b:=by
 cases a<;>cases b<;>simp only [leI,Nat.ble_eq,qaq,qai,false_iff,true_iff]<;>omega
def zeD:List (Nat×Int)->Nat->Option Int
 |[],_=>none
 |(k,d)::r,n=>if Nat.beq k n then some d else zeD r n
def zgB:List (Nat×Int)->Nat->Int->List (Nat×Int)
 |[],n,d=>[(n,d)]
 |(k,e)::r,n,d=>if Nat.beq k n then (if leI e d then (k,e)::r else (k,d)::r) else (k,e)::zgB r n d
def relax:List Fact->List (Nat×Int)->List (Nat×Int)
 |[],ds=>ds
 |f::F,ds=>match zeD ds f.x with
  |some d=>relax F (zgB ds f.y (d+f.c))
  |none=>relax F ds
def rounds:Nat->List Fact->List (Nat×Int)->List (Nat×Int)
 |0,_,ds=>ds
 |k+1,F,ds=>rounds k F (relax F ds)
def leL (F:List Fact)(a b:Lin):Bool:=
 if Nat.beq a.s b.s&&leI a.c b.c then true
 else match F.filter (fun f=>Nat.beq f.x a.s) with
  |[]=>false
  |Fa=>match F.filter (fun f=>Nat.beq f.y b.s) with
   |[]=>false
   |Fb=>Fa.any fun f=>(Nat.beq f.y b.s&&leI (a.c+f.c) b.c)||
     Fb.any fun h=>(Nat.beq f.y h.x&&leI (a.c+f.c+h.c) b.c)||F.any fun g=>Nat.beq g.x f.y&&(Nat.beq g.y h.x&&leI (a.c+f.c+g.c+h.c) b.c)
def ZT (ρ:Rho)(a:Nat)(ds:List (Nat×Int)):Prop:=∀p,p∈ds->ρ a<=ρ p.1+p.2
theorem vG:∀{ds:List (Nat×Int)} {n:Nat} {d:Int},zeD ds n=some d->(n,d)∈ds
 |(k,e)::r,n,d,h=>by
  unfold zeD at h;split at h;·simp_all
  exact qaD _ (vG h)
theorem TK {ρ:Rho}{a:Nat}:∀{ds:List (Nat×Int)} {n:Nat} {d:Int},ZT ρ a ds->ρ a<=ρ n+d->ZT ρ a (zgB ds n d)
 |[],n,d,_,h=>fun p hp=>by grind[zgB]
 |(k,e)::r,n,d,hd,h=>by
  unfold zgB;split
  ·rename_i hk;obtain rfl:=qaj hk;split
   ·grind
   intro p hp;rcases qal.1 hp with rfl|hp;·exact h
   exact hd p (qaD _ hp)
  intro p hp;rcases qal.1 hp with rfl|hp;·exact hd _ (qay ..)
  exact TK (fun q hq=>hd q (qaD _ hq)) h p hp
theorem BQ {ρ:Rho}{a n:Nat}:∀{F:List Fact} {ds:List (Nat×Int)},aV n ρ F->ZT ρ a ds->ZT ρ a (relax F ds)
 |[],_,_,hd=>hd
 |f::F,ds,hF,hd=>by
  have hF':aV n ρ F:=fun g hg=>hF g (qaD _ hg);unfold relax;split;next d hg=>have h1:=hd _ (vG hg);have h2:=(hF f (qay ..)).2.2;exact BQ hF' (TK hd (by grind))
  exact BQ hF' hd
theorem wJ {ρ:Rho}{a n:Nat}{F:List Fact}(hF:aV n ρ F):∀(k:Nat) {ds:List (Nat×Int)},ZT ρ a ds->ZT ρ a (rounds k F ds)
 |0,_,hd=>hd
 |k+1,_,hd=>by unfold rounds;exact wJ hF k (BQ hF hd)
theorem aO (hF:aV n ρ F)(h:leL F a b=true):a.v ρ<=b.v ρ:=by
 unfold leL at h;unfold Lin.v;split at h;·simp_all[gX]
 split at h;·cases h
 split at h;·cases h
 obtain ⟨f,m,j⟩:=List.any_eq_true.1 h;rw [List.mem_filter] at m;have u:=(hF f m.1).2.2;rw [qaj m.2] at u;rw [Bool.or_eq_true] at j;rcases j with j|j
 ·rw [qab] at j
  grind[qaj,gX]
 obtain ⟨g,q,l⟩:=List.any_eq_true.1 j;rw [List.mem_filter] at q;have w:=(hF g q.1).2.2;rw [qaj q.2] at w;rw [Bool.or_eq_true] at l;rcases l with l|l
 ·rw [qab] at l
  grind[qaj,gX]
 obtain ⟨k,A,y⟩:=List.any_eq_true.1 l;simp only [qab] at y;have B:=(hF k A).2.2<;>grind[qaj,gX]
def eqL (F:List Fact)(a b:Lin):Bool:=leL F a b&&leL F b a
theorem Gi (hF:aV n ρ F)(h:eqL F a b=true):a.v ρ=b.v ρ:=by unfold eqL at h;rw [qab] at h;have f:=aO hF h.1;have j:=aO hF h.2;omega
def au (a b:Lin):Fact:=⟨a.s,b.s,b.c-a.c⟩
theorem aF :(au a b).ok n ρ↔a.s<n/\b.s<n/\a.v ρ<=b.v ρ:=by grind[Fact.ok,au,Lin.v]
inductive ET where
 |i (k:IntKind) (lo hi:Option Int)
 |b
 |s (lo hi:Nat)
 |sl (sz k lo hi:Nat)
 |z
 |nX
 deriving Inhabited
variable {t:ET}
abbrev Tab:=Nat->List (List ET)
variable {T:Tab}
def yU (P:Nat->List X->Prop):ET->X->Prop
 |.i k lo hi,.v (.int k' z)=>k'=k/\(∀a,lo=some a->a<=z)/\(∀b,hi=some b->z<=b)
 |.b,.v (.bool _)=>True
 |.s lo hi,.v (.string bs)=>lo<=bs.size/\bs.size<=hi
 |.sl sz k lo hi,.sl _ sz' es=>sz'=sz/\lo<=es.length/\es.length<=hi/\∀e,e∈es->P k e
 |.z,.v .nilFunc=>True
 |.nX,x=>x=.ifc\/x=.v .nilIface
 |_,_=>False
def ETs (P:Nat->List X->Prop):List ET->List X->Prop
 |[],[]=>True
 |t::ts,x::xs=>yU P t x/\ETs P ts xs
 |_,_=>False
def DN (T:Tab):Nat->Nat->List X->Prop
 |0,_,_=>False
 |h+1,k,cs=>∃alt,alt∈T k/\ETs (DN T h) alt cs
def D (T:Tab)(h:Int)(k:Nat)(cs:List X):Prop:=DN T h.toNat k cs
theorem Uz {Q:Nat->List X->Prop}(h:∀k e,P k e->Q k e)(hx:yU P t x):yU Q t x:=by unfold yU at hx ⊢<;>grind
theorem MB {P Q:Nat->List X->Prop}(h:∀k e,P k e->Q k e):∀{ts:List ET} {xs:List X},ETs P ts xs->ETs Q ts xs
 |[],[],_=>trivial
 |_::_,_::_,hx=>⟨Uz h hx.1,MB h hx.2⟩
theorem UD {T:Tab}:∀{h k:Nat} {cs:List X},DN T h k cs->DN T (h+1) k cs
 |0,_,_,hd=>hd.elim
 |_+1,_,_,⟨alt,ha,hs⟩=>⟨alt,ha,MB (fun _ _ hd=>UD hd) hs⟩
theorem zes {h h' k:Nat}(hh:h<=h')(hd:DN T h k cs):DN T h' k cs:=by
 induction hh with
 |refl=>grind
 |step _ ih=>grind[UD]
theorem iF {h':Int}{k:Nat}(hh:h<=h')(hd:D T h k cs):D T h' k cs:=zes (by omega) hd
theorem oN {k:Nat}(hd:D T h k cs):1<=h/\∃alt,alt∈T k/\ETs (D T (h-1)) alt cs:=by
 unfold D at hd;cases a:h.toNat with
 |zero=>rw [a] at hd;exact hd.elim
 |succ m=>
  rw [a] at hd;obtain ⟨alt,f,j⟩:=hd;have:m=(h-1).toNat:=by omega
  subst this;exact ⟨by omega,alt,f,j⟩
theorem eX {k:Nat}{alt:List ET}(hh:1<=h)(ha:alt∈T k)(hs:ETs (D T (h-1)) alt cs):D T h k cs:=by
 unfold D;obtain ⟨m,a⟩:∃m,h.toNat=m+1:=⟨h.toNat-1,by omega⟩;rw [a];have:m=(h-1).toNat:=by omega
 subst this;exact ⟨alt,ha,hs⟩
theorem Uy (hx:yU P t x):x.refs=[]:=by
 unfold yU at hx;split at hx<;>first
  |rfl
  |(rcases hx with rfl|rfl<;>rfl)
  |exact hx.elim
theorem Me {P:Nat->List X->Prop}:∀{ts:List ET} {xs:List X},ETs P ts xs->refsL xs=[]
 |[],[],_=>rfl
 |t::ts,x::xs,h=>by show x.refs++refsL xs=[];rw [Uy h.1,Me h.2];rfl
theorem lq {k:Nat}(hd:D T h k cs):refsL cs=[]:=by obtain ⟨_,_,_,a⟩:=oN hd<;>grind[Me]
def Zp (k j:Nat):Bool:=(Nat.beq k 1&&Nat.beq j 21)||(Nat.beq k 2&&Nat.beq j 22)
def ze2:List (Nat×Nat):=[(1,21),(2,22)]
def oIn (lo lo':Option Int):Bool:=match lo' with
 |none=>true
 |some b=>match lo with
  |none=>false
  |some a=>decide (a=b)
def zhR:ET->ET->Bool
 |.i k lo hi,.i k' lo' hi'=>decide (k=k')&&oIn lo lo'&&oIn hi hi'
 |.b,.b=>true
 |.s lo hi,.s lo' hi'=>Nat.ble lo' lo&&Nat.ble hi hi'
 |.sl sz k lo hi,.sl sz' k' lo' hi'=>Nat.beq sz sz'&&(Nat.beq k k'||Zp k k')&&Nat.ble lo' lo&&Nat.ble hi hi'
 |.z,.z=>true
 |.nX,.nX=>true
 |_,_=>false
def Yi:List ET->List ET->Bool
 |[],[]=>true
 |a::l,y::r=>zhR a y&&Yi l r
 |_,_=>false
def Zo (T:Tab):Bool:=ze2.all fun p=>(T p.1).all fun a=>(T p.2).any fun b=>Yi a b
def kle (T:Tab)(k j:Nat):Bool:=Nat.beq k j||(Zp k j&&Zo T)
theorem zfV {lo lo':Option Int}(h:oIn lo lo'=true)(hz:∀a,lo=some a->a<=z):∀a,lo'=some a->a<=z:=by
 intro a e;subst e;cases lo with
 |none=>cases h
 |some b=>
  have h:decide (b=a)=true:=h
  grind
theorem zfW {hi hi':Option Int}(h:oIn hi hi'=true)(hz:∀b,hi=some b->z<=b):∀b,hi'=some b->z<=b:=by
 intro a e;subst e;cases hi with
 |none=>cases h
 |some b=>
  have h:decide (b=a)=true:=h
  grind
theorem zdl (hP:∀k j e,Zp k j=true->P k e->P j e){u:ET}(h:zhR t u=true)(hx:yU P t x):yU P u x:=by
 unfold zhR at h;split at h;·simp at h;obtain ⟨⟨rfl,a⟩,f⟩:=h;unfold yU at hx<;>grind[yU,zfV,zfW]
 ·grind
 ·simp only [qab] at h;obtain ⟨a,f⟩:=h;have a:=Nat.le_of_ble_eq_true a;have f:=Nat.le_of_ble_eq_true f;unfold yU at hx<;>grind[yU]
 ·simp only [qab,Bool.or_eq_true] at h;obtain ⟨⟨⟨a,m⟩,f⟩,l⟩:=h;have a:=qaj a;have f:=Nat.le_of_ble_eq_true f;have l:=Nat.le_of_ble_eq_true l;subst a;unfold yU at hx<;>grind[yU,qaj]
 ·grind
 ·grind
 grind
theorem Lr {P:Nat->List X->Prop}(hP:∀k j e,Zp k j=true->P k e->P j e):∀{t u:List ET} {x:List X},Yi t u=true->ETs P t x->ETs P u x
 |[],[],[],_,_=>trivial
 |a::l,y::r,x::xs,h,hx=>by have h:(zhR a y&&Yi l r)=true:=h;rw [qab] at h;exact ⟨zdl hP h.1 hx.1,Lr hP h.2 hx.2⟩
theorem VD {k:Nat}(h:Zp k j=true):(k,j)∈ze2:=by
 unfold Zp at h;simp only [Bool.or_eq_true,qab] at h;rcases h with ⟨a,f⟩|⟨a,f⟩;·rw [qaj a,qaj f];exact qay ..
 rw [qaj a,qaj f];exact qaD _ (qay ..)
theorem ZU {T:Tab}(hT:Zo T=true):∀(h k j:Nat) (cs:List X),Zp k j=true->DN T h k cs->DN T h j cs
 |0,_,_,_,_,hd=>hd.elim
 |h+1,k,j,cs,hk,⟨alt,ha,hs⟩=>by have h1:=qas.1 (qas.1 hT (k,j) (VD hk)) alt ha;obtain ⟨b,hb,hl⟩:=List.any_eq_true.1 h1;exact ⟨b,hb,Lr (fun k j e hk he=>ZU hT h k j e hk he) hl hs⟩
theorem zf5 {k:Nat}(hk:kle T k j=true)(hd:D T h k cs):D T h j cs:=by
 unfold kle at hk;rw [Bool.or_eq_true,qab] at hk;rcases hk with hk|⟨a,f⟩;·simp_all
 exact ZU f _ _ _ _ a hd
def SOk (T:Tab)(S:Nat->Nat->Bool):Prop:=∀{k j:Nat},S k j=true->∀{h:Int} {cs:List X},D T h k cs->D T h j cs
theorem sok (T:Tab):SOk T (kle T):=fun f _ _ a=>zf5 f a
inductive AX where
 |i (k:IntKind) (l:Lin)
 |b (tf ff:List Fact)
 |s (l:Lin)
 |x (x:X)
 |sl (t:Option Bool) (sz k:Nat) (h n:Lin)
 |bs (i:Nat) (o n:Lin)
 |ptr (i:Nat) (e:Lin) (o:Nat)
 |dp (cs:List AX)
 |fn (f:FuncId) (cs:List AX)
 |agg (cs:List AX)
 |tup (cs:List AX)
 |yl (i:Nat)
 |mp (i:Nat)
 |nX
 |el (k:Nat) (h:Lin)
 |de (k:Nat) (h:Lin)
 deriving Inhabited
def xM:Option Bool->Bool->Prop
 |none,_=>True
 |some b,c=>c=b
mutual
inductive G (T:Tab) (n:Nat) (ρ:Rho):AX->X->Prop where
 |i {k:IntKind} {l:Lin} {z:Int}:l.s<n->z=l.v ρ->G T n ρ (.i k l) (.v (.int k z))
 |b {tf ff:List Fact} {t:Bool}:(t=true->aV n ρ tf)->(t=false->aV n ρ ff)->G T n ρ (.b tf ff) (.v (.bool t))
 |s {l:Lin} {bs:qaX}:l.s<n->(bs.size:Int)=l.v ρ->G T n ρ (.s l) (.v (.string bs))
 |x {x:X}:x.refs=[]->G T n ρ (.x x) x
 |sl {t:Option Bool} {sz k:Nat} {h l:Lin} {tt:Bool} {es:qaW}:h.s<n->l.s<n->xM t tt->(es.length:Int)=l.v ρ->(∀e,e∈es->D T (h.v ρ) k e)->G T n ρ (.sl t sz k h l) (.sl tt sz es)
 |bs {i:Nat} {o l:Lin} {o' l':Nat}:o.s<n->l.s<n->(o':Int)=o.v ρ->(l':Int)=l.v ρ->G T n ρ (.bs i o l) (.bs i o' l')
 |ptr {i:Nat} {e:Lin} {o e':Nat}:e.s<n->(e':Int)=e.v ρ->G T n ρ (.ptr i e o) (.ptr i e' o)
 |dp {cs:List AX} {xs:List X}:GL T n ρ cs xs->G T n ρ (.dp cs) (.dp xs)
 |fn {f:FuncId} {cs:List AX} {xs:List X}:GL T n ρ cs xs->G T n ρ (.fn f cs) (.fn f xs)
 |agg {cs:List AX} {xs:List X}:GL T n ρ cs xs->G T n ρ (.agg cs) (.agg xs)
 |tup {cs:List AX} {xs:List X}:GL T n ρ cs xs->G T n ρ (.tup cs) (.tup xs)
 |yl {i:Nat}:G T n ρ (.yl i) (.yl i)
 |mp {i:Nat}:G T n ρ (.mp i) (.mp i)
 |ifc:G T n ρ .nX .ifc
 |Ah:G T n ρ .nX (.v .nilIface)
 |el {k:Nat} {h:Lin} {xs:List X}:h.s<n->D T (h.v ρ) k xs->G T n ρ (.el k h) (.agg xs)
 |de {k:Nat} {h:Lin} {xs:List X}:h.s<n->D T (h.v ρ) k xs->G T n ρ (.de k h) (.dp xs)
inductive GL (T:Tab) (n:Nat) (ρ:Rho):List AX->List X->Prop where
 |nil:GL T n ρ [] []
 |cons {a:AX} {x:X} {l:List AX} {m:List X}:G T n ρ a x->GL T n ρ l m->GL T n ρ (a::l) (x::m)
end
structure More (n:Nat) (ρ:Rho) (n':Nat) (ρ':Rho):Prop where
 le:n<=n'
 same:∀s,s<n->ρ' s=ρ s
theorem More.refl (n:Nat)(ρ:Rho):More n ρ n ρ:=⟨Nat.le_refl _,fun _ _=>rfl⟩
theorem More.trans {n'':Nat}{zkK:Rho}(h:More n ρ n' ρ')(h':More n' ρ' n'' zkK):More n ρ n'' zkK:=
 ⟨Nat.le_trans h.le h'.le,fun s a=>by rw [h'.same s (Nat.lt_of_lt_of_le a h.le),h.same s a]⟩
theorem More.lin (h:More n ρ n' ρ'){l:Lin}(hl:l.s<n):l.v ρ'=l.v ρ:=by unfold Lin.v;rw [h.same _ hl]
theorem More.lt (h:More n ρ n' ρ'){s:Nat}(hs:s<n):s<n':=Nat.lt_of_lt_of_le hs h.le
theorem More.fact (h:More n ρ n' ρ'){f:Fact}(hf:f.ok n ρ):f.ok n' ρ':=
 ⟨h.lt hf.1,h.lt hf.2.1,by rw [h.same _ hf.1,h.same _ hf.2.1];exact hf.2.2⟩
theorem More.facts (h:More n ρ n' ρ')(hf:aV n ρ F):aV n' ρ' F:=fun f a=>h.fact (hf f a)
mutual
theorem G.more {T:Tab}{n n':Nat}{ρ ρ':Rho}(h:More n ρ n' ρ'):∀{a:AX} {x:X},G T n ρ a x->G T n' ρ' a x
 |_,_,.i h1 h2=>.i (h.lt h1) (by rw [h.lin h1]<;>grind)
 |_,_,.b h1 h2=>.b (fun e=>h.facts (h1 e)) (fun e=>h.facts (h2 e))
 |_,_,.s h1 h2=>.s (h.lt h1) (by rw [h.lin h1]<;>grind)
 |_,_,.x h1=>.x h1
 |_,_,.sl h1 h2 h3 h4 h5=>.sl (h.lt h1) (h.lt h2) h3 (by rw [h.lin h2]<;>grind) (by rw [h.lin h1]<;>grind)
 |_,_,.bs h1 h2 h3 h4=>.bs (h.lt h1) (h.lt h2) (by rw [h.lin h1]<;>grind) (by rw [h.lin h2]<;>grind)
 |_,_,.ptr h1 h2=>.ptr (h.lt h1) (by rw [h.lin h1]<;>grind)
 |_,_,.dp h1=>.dp (GL.more h h1)
 |_,_,.fn h1=>.fn (GL.more h h1)
 |_,_,.agg h1=>.agg (GL.more h h1)
 |_,_,.tup h1=>.tup (GL.more h h1)
 |_,_,.yl=>.yl
 |_,_,.mp=>.mp
 |_,_,.ifc=>.ifc
 |_,_,.Ah=>.Ah
 |_,_,.el h1 h2=>.el (h.lt h1) (by rw [h.lin h1]<;>grind)
 |_,_,.de h1 h2=>.de (h.lt h1) (by rw [h.lin h1]<;>grind)
theorem GL.more {T:Tab}{n n':Nat}{ρ ρ':Rho}(h:More n ρ n' ρ'):∀{a:List AX} {x:List X},GL T n ρ a x->GL T n' ρ' a x
 |_,_,.nil=>.nil
 |_,_,.cons h1 h2=>.cons (G.more h h1) (GL.more h h2)
end
inductive ABx where
 |var (cs:List AX)
 |row (sz k:Nat) (h n:Lin)
 |loop (st:LoopState) (pend:Option Ex) (tm:List (Nat×AX)) (ps:List Nat) (assign body:C)
 |map (es:List (Value×AX))
 |dead
 |el (k:Nat) (h:Lin)
 deriving Inhabited
inductive GT (T:Tab) (n:Nat) (ρ:Rho):List (Nat×AX)->List (Nat×X)->Prop where
 |nil:GT T n ρ [] []
 |cons {k:Nat} {a:AX} {x:X} {l:List (Nat×AX)} {m:List (Nat×X)}:G T n ρ a x->GT T n ρ l m->GT T n ρ ((k,a)::l) ((k,x)::m)
inductive GM (T:Tab) (n:Nat) (ρ:Rho):List (Value×AX)->List (Value×X)->Prop where
 |nil:GM T n ρ [] []
 |cons {k:Value} {a:AX} {x:X} {l:List (Value×AX)} {m:List (Value×X)}:G T n ρ a x->GM T n ρ l m->GM T n ρ ((k,a)::l) ((k,x)::m)
inductive GB (T:Tab) (n:Nat) (ρ:Rho):ABx->Bx->Prop where
 |var {cs:List AX} {xs:List X}:GL T n ρ cs xs->GB T n ρ (.var cs) (.var xs)
 |row {sz k:Nat} {h l:Lin} {es:qaW}:h.s<n->l.s<n->(es.length:Int)=l.v ρ->(∀e,e∈es->D T (h.v ρ) k e)->GB T n ρ (.row sz k h l) (.row sz es)
 |loop {st:LoopState} {pend:Option Ex} {tm:List (Nat×AX)} {tm':List (Nat×X)} {ps:List Nat} {a b:C}:GT T n ρ tm tm'->GB T n ρ (.loop st pend tm ps a b) (.loop st pend tm' ps a b)
 |map {es:List (Value×AX)} {es':List (Value×X)}:GM T n ρ es es'->GB T n ρ (.map es) (.map es')
 |dead:GB T n ρ .dead .dead
 |el {k:Nat} {h:Lin} {xs:List X}:h.s<n->D T (h.v ρ) k xs->GB T n ρ (.el k h) (.var xs)
inductive GBs (T:Tab) (n:Nat) (ρ:Rho):List ABx->List Bx->Prop where
 |nil:GBs T n ρ [] []
 |cons {a:ABx} {x:Bx} {l:List ABx} {m:List Bx}:GB T n ρ a x->GBs T n ρ l m->GBs T n ρ (a::l) (x::m)
structure ASt where
 nx:Nat
 F:List Fact
 tm:List (Nat×AX)
 bx:List ABx
 deriving Inhabited
structure R (T:Tab) (ρ:Rho) (a:ASt) (σ:St):Prop where
 zero:ρ 0=0
 pos:0<a.nx
 F:aV a.nx ρ a.F
 tm:GT T a.nx ρ a.tm σ.tm
 bx:GBs T a.nx ρ a.bx σ.bx
theorem GT.more (h:More n ρ n' ρ'):∀{a:List (Nat×AX)} {x:List (Nat×X)},GT T n ρ a x->GT T n' ρ' a x
 |_,_,.nil=>.nil
 |_,_,.cons h1 h2=>.cons (h1.more h) (h2.more h)
theorem GM.more (h:More n ρ n' ρ'):∀{a:List (Value×AX)} {x:List (Value×X)},GM T n ρ a x->GM T n' ρ' a x
 |_,_,.nil=>.nil
 |_,_,.cons h1 h2=>.cons (h1.more h) (h2.more h)
theorem GB.more (h:More n ρ n' ρ'):∀{a:ABx} {x:Bx},GB T n ρ a x->GB T n' ρ' a x
 |_,_,.var h1=>.var (h1.more h)
 |_,_,.row h1 h2 h3 h4=>.row (h.lt h1) (h.lt h2) (by rw [h.lin h2]<;>grind) (by rw [h.lin h1]<;>grind)
 |_,_,.loop h1=>.loop (h1.more h)
 |_,_,.map h1=>.map (h1.more h)
 |_,_,.dead=>.dead
 |_,_,.el h1 h2=>.el (h.lt h1) (by rw [h.lin h1]<;>grind)
theorem GBs.more (h:More n ρ n' ρ'):∀{a:List ABx} {x:List Bx},GBs T n ρ a x->GBs T n' ρ' a x
 |_,_,.nil=>.nil
 |_,_,.cons h1 h2=>.cons (h1.more h) (h2.more h)
end
section
variable {l:List ABx}{m:List Bx}
variable {T:Tab} {n:Nat} {ρ:Rho}
theorem GL.len:∀{l:List AX} {m:List X},GL T n ρ l m->l.length=m.length
 |_,_,.nil=>rfl
 |_,_,.cons _ h=>by rw [qat,qat,h.len]
theorem GL.get {l:List AX}{m:List X}(h:GL T n ρ l m):∀{i:Nat} {a:AX},l[i]?=some a->∃x,m[i]?=some x/\G T n ρ a x:=by
 induction h using GL.rec (motive_1:=fun _ _ _=>True) with
 |nil=>grind
 |cons h1 h2 _ ih=>grind
 |_=>trivial
theorem GL.drop:∀{l:List AX} {m:List X} (k:Nat),GL T n ρ l m->GL T n ρ (l.drop k) (m.drop k)
 |_,_,0,h=>h
 |_,_,_+1,.nil=>.nil
 |_,_,k+1,.cons _ h=>h.drop k
theorem GL.take:∀{l:List AX} {m:List X} (k:Nat),GL T n ρ l m->GL T n ρ (l.take k) (m.take k)
 |_,_,0,_=>.nil
 |_,_,_+1,.nil=>.nil
 |_,_,k+1,.cons h1 h=>.cons h1 (h.take k)
theorem GL.append:∀{l l':List AX} {m m':List X},GL T n ρ l m->GL T n ρ l' m'->GL T n ρ (l++l') (m++m')
 |_,_,_,_,.nil,h=>h
 |_,_,_,_,.cons h1 h,h'=>.cons h1 (h.append h')
theorem GL.one {a:AX}{x:X}(h:G T n ρ a x):GL T n ρ [a] [x]:=.cons h .nil
mutual
def AX.refs:AX->List Nat
 |.bs i _ _|.ptr i _ _|.yl i|.mp i=>[i]
 |.fn _ cs=>lC cs
 |.agg cs=>lC cs
 |.tup cs=>lC cs
 |.i _ _|.b _ _|.s _|.x _|.sl _ _ _ _ _|.dp _|.nX|.el _ _|.de _ _=>[]
def lC:List AX->List Nat
 |[]=>[]
 |x::r=>x.refs++lC r
end
mutual
theorem G.refs:∀{a:AX} {x:X},G T n ρ a x->x.refs=a.refs
 |_,_,.i _ _=>rfl
 |_,_,.b _ _=>rfl
 |_,_,.s _ _=>rfl
 |_,_,.x h=>h
 |_,_,.sl _ _ _ _ _=>rfl
 |_,_,.bs _ _ _ _=>rfl
 |_,_,.ptr _ _=>rfl
 |_,_,.dp _=>rfl
 |_,_,.fn h=>h.refs
 |_,_,.agg h=>h.refs
 |_,_,.tup h=>h.refs
 |_,_,.yl=>rfl
 |_,_,.mp=>rfl
 |_,_,.ifc=>rfl
 |_,_,.Ah=>rfl
 |_,_,.el _ h=>lq h
 |_,_,.de _ _=>rfl
theorem GL.refs:∀{a:List AX} {x:List X},GL T n ρ a x->refsL x=lC a
 |_,_,.nil=>rfl
 |_,_,.cons h1 h2=>by show X.refs _++refsL _=AX.refs _++lC _;rw [h1.refs,h2.refs]
end
mutual
def AX.ren (f:Nat->Nat):AX->AX
 |.bs i a b=>.bs (f i) a b
 |.ptr i a b=>.ptr (f i) a b
 |.yl i=>.yl (f i)
 |.mp i=>.mp (f i)
 |.fn g cs=>.fn g (za9 f cs)
 |.agg cs=>.agg (za9 f cs)
 |.tup cs=>.tup (za9 f cs)
 |.i k l=>.i k l
 |.b t u=>.b t u
 |.s l=>.s l
 |.x x=>.x x
 |.sl t sz k h l=>.sl t sz k h l
 |.dp cs=>.dp cs
 |.nX=>.nX
 |.el k h=>.el k h
 |.de k h=>.de k h
def za9 (f:Nat->Nat):List AX->List AX
 |[]=>[]
 |x::r=>x.ren f::za9 f r
end
mutual
theorem G.ren (f:Nat->Nat):∀{a:AX} {x:X},G T n ρ a x->G T n ρ (a.ren f) (x.ren f)
 |_,_,.i h1 h2=>.i h1 h2
 |_,_,.b h1 h2=>.b h1 h2
 |_,_,.s h1 h2=>.s h1 h2
 |.x _,x,.x h=>by show G T n ρ (.x x) (x.ren f);rw [ren_none f x h];exact .x h
 |_,_,.sl h1 h2 h3 h4 h5=>.sl h1 h2 h3 h4 h5
 |_,_,.bs h1 h2 h3 h4=>.bs h1 h2 h3 h4
 |_,_,.ptr h1 h2=>.ptr h1 h2
 |_,_,.dp h=>.dp h
 |_,_,.fn h=>.fn (h.ren f)
 |_,_,.agg h=>.agg (h.ren f)
 |_,_,.tup h=>.tup (h.ren f)
 |_,_,.yl=>.yl
 |_,_,.mp=>.mp
 |_,_,.ifc=>.ifc
 |_,_,.Ah=>.Ah
 |_,_,.el (xs:=xs) h1 h2=>by rw [show X.ren f (.agg xs)=.agg xs from ren_none f (.agg xs) (lq h2)];exact .el h1 h2
 |_,_,.de h1 h2=>.de h1 h2
theorem GL.ren (f:Nat->Nat):∀{a:List AX} {x:List X},GL T n ρ a x->GL T n ρ (za9 f a) (renL f x)
 |_,_,.nil=>.nil
 |_,_,.cons h1 h2=>.cons (h1.ren f) (h2.ren f)
end
def za8 (f:Nat->Nat)(tm:List (Nat×AX)):List (Nat×AX):=tm.map fun p=>(p.1,p.2.ren f)
theorem GT.ren (f:Nat->Nat):∀{a:List (Nat×AX)} {x:List (Nat×X)},GT T n ρ a x->GT T n ρ (za8 f a) (renT f x)
 |_,_,.nil=>.nil
 |_,_,.cons h1 h2=>.cons (h1.ren f) (h2.ren f)
theorem GT.vals:∀{a:List (Nat×AX)} {x:List (Nat×X)},GT T n ρ a x->GL T n ρ (a.map (·.2)) (x.map (·.2))
 |_,_,.nil=>.nil
 |_,_,.cons h1 h2=>.cons h1 h2.vals
def ABx.refs:ABx->List Nat
 |.var cs=>lC cs
 |.loop _ _ tm _ _ _=>lC (tm.map (·.2))
 |.row _ _ _ _|.map _|.dead|.el _ _=>[]
def ABx.ren (f:Nat->Nat):ABx->ABx
 |.var cs=>.var (za9 f cs)
 |.loop st p tm ps a b=>.loop st p (za8 f tm) ps a b
 |.row s k h l=>.row s k h l
 |.map es=>.map es
 |.dead=>.dead
 |.el k h=>.el k h
theorem GB.refs:∀{a:ABx} {x:Bx},GB T n ρ a x->x.refs=a.refs
 |_,_,.var h=>h.refs
 |_,_,.row _ _ _ _=>rfl
 |_,_,.loop h=>h.vals.refs
 |_,_,.map _=>rfl
 |_,_,.dead=>rfl
 |_,_,.el _ h=>lq h
theorem GB.ren (f:Nat->Nat):∀{a:ABx} {x:Bx},GB T n ρ a x->GB T n ρ (a.ren f) (x.ren f)
 |_,_,.var h=>.var (h.ren f)
 |_,_,.row h1 h2 h3 h4=>.row h1 h2 h3 h4
 |_,_,.loop h=>.loop (h.ren f)
 |_,_,.map h=>.map h
 |_,_,.dead=>.dead
 |_,_,.el (xs:=xs) h1 h2=>by rw [show Bx.ren f (.var xs)=.var xs from by show Bx.var (renL f xs)=_<;>grind[renL_none,lq]];exact .el h1 h2
theorem GBs.len:∀{l:List ABx} {m:List Bx},GBs T n ρ l m->l.length=m.length
 |_,_,.nil=>rfl
 |_,_,.cons _ h=>by rw [qat,qat,h.len]
theorem GBs.get:∀{l:List ABx} {m:List Bx} {i:Nat} {a:ABx},GBs T n ρ l m->l[i]?=some a->∃x,m[i]?=some x/\GB T n ρ a x
 |_,_,i,_,.nil,e=>by grind
 |_,_,0,_,.cons h1 _,e=>by grind
 |_,_,_+1,_,.cons _ h,e=>by simpa using h.get (by grind)
theorem GBs.none:∀{l:List ABx} {m:List Bx} {i:Nat},GBs T n ρ l m->l[i]?=none->m[i]?=none:=by intro l m i h e;rw [List.getElem?_eq_none_iff] at e ⊢;rw [<-h.len]<;>grind
theorem GBs.set:∀{l:List ABx} {m:List Bx} {a:ABx} {x:Bx} (i:Nat),GBs T n ρ l m->GB T n ρ a x->GBs T n ρ (l.set i a) (m.set i x)
 |_,_,_,_,_,.nil,_=>.nil
 |_,_,_,_,0,.cons _ h,h'=>.cons h' h
 |_,_,_,_,i+1,.cons h1 h,h'=>.cons h1 (h.set i h')
theorem GBs.append:∀{l l':List ABx} {m m':List Bx},GBs T n ρ l m->GBs T n ρ l' m'->GBs T n ρ (l++l') (m++m')
 |_,_,_,_,.nil,h=>h
 |_,_,_,_,.cons h1 h,h'=>.cons h1 (h.append h')
theorem GBs.snoc {a:ABx}{x:Bx}(h:GBs T n ρ l m)(h':GB T n ρ a x):GBs T n ρ (l++[a]) (m++[x]):=h.append (.cons h' .nil)
theorem GBs.drop:∀{l:List ABx} {m:List Bx} (k:Nat),GBs T n ρ l m->GBs T n ρ (l.drop k) (m.drop k)
 |_,_,0,h=>h
 |_,_,_+1,.nil=>.nil
 |_,_,k+1,.cons _ h=>h.drop k
theorem GBs.ren (f:Nat->Nat):∀{l:List ABx} {m:List Bx},GBs T n ρ l m->GBs T n ρ (l.map (ABx.ren f)) (m.map (Bx.ren f))
 |_,_,.nil=>.nil
 |_,_,.cons h1 h=>.cons (h1.ren f) (h.ren f)
def nT (bx:List ABx):Nat->List Nat->List Nat->List Nat
 |0,_,seen=>seen
 |_+1,[],seen=>seen
 |m+1,i::todo,seen=>
  if memN i seen then nT bx m todo seen
  else match bx[i]? with
   |none=>nT bx m todo seen
   |some b=>nT bx m (todo++b.refs) (seen++[i])
theorem ku {l:List ABx}{m:List Bx}(h:GBs T n ρ l m):∀(f:Nat) (todo seen:List Nat),reach m f todo seen=nT l f todo seen
 |0,_,_=>rfl
 |_+1,[],_=>rfl
 |f+1,i::todo,seen=>by
  unfold reach nT;split;·exact ku h f todo seen
  cases hl:l[i]? with
  |none=>rw [h.none hl];exact ku h f todo seen
  |some a=>obtain ⟨x,hx,hg⟩:=h.get hl;rw [hx];dsimp only;rw [hg.refs];exact ku h f _ _
def FY (bx:List ABx):List Nat->Option (List ABx)
 |[]=>some []
 |i::r=>match bx[i]? with
  |none=>none
  |some b=>(FY bx r).map (b::·)
theorem FX {l:List ABx}{m:List Bx}(h:GBs T n ρ l m):∀{s:List Nat} {p:List ABx},FY l s=some p->∃q,getBs m s=some q/\GBs T n ρ p q
 |[],p,e=>by simp only [FY,qah] at e;subst e;exact ⟨[],rfl,.nil⟩
 |i::r,p,e=>by
  unfold FY at e;split at e;·cases e
  rename_i b hb;obtain ⟨p',hp,rfl⟩:=qac.1 e;obtain ⟨x,hx,hg⟩:=h.get hb;obtain ⟨q,hq,hgq⟩:=FX h hp;exact ⟨x::q,by grind[getBs],.cons hg hgq⟩
def E5 (bx:List ABx)(sel:List Nat):Option (List ABx):=
 match FY bx sel with
 |none=>none
 |some l=>if nodupN sel&&l.all (fun b=>subN b.refs sel) then some (l.map (ABx.ren (idxN · sel))) else none
theorem LY:∀{p:List ABx} {q:List Bx} {sel:List Nat},GBs T n ρ p q->q.all (fun b=>subN b.refs sel)=p.all (fun b=>subN b.refs sel)
 |_,_,_,.nil=>rfl
 |_,_,_,.cons h1 h=>by rw [List.all_cons,List.all_cons,h1.refs,LY h]
theorem wL (h:GBs T n ρ l m){s:List Nat}{p:List ABx}(e:E5 l s=some p):∃q,pickB m s=some q/\GBs T n ρ p q:=by
 unfold E5 at e;split at e;·cases e
 rename_i w j;obtain ⟨q,u,a⟩:=FX h j;split at e;next f=>cases e;refine ⟨q.map (Bx.ren (idxN · s)),?_,a.ren _⟩;unfold pickB;rw [u];dsimp only;rw [LY a,if_pos f]
 grind
def LU (nIn:Nat)(a:ASt):Option ASt:=
 let sel:=nT a.bx reachFuel (List.range nIn++lC (a.tm.map (·.2))) []
 if subN (lC (a.tm.map (·.2))) sel&&sel.take nIn==List.range nIn then
  (E5 a.bx sel).map fun bx=>⟨a.nx,a.F,za8 (idxN · sel) a.tm,bx⟩
 else none
theorem yP {a a':ASt}{σ:St}(h:R T ρ a σ){nIn:Nat}(e:LU nIn a=some a'):∃σ',canon nIn σ=some σ'/\R T ρ a' σ'/\a'.nx=a.nx:=by
 unfold LU at e;dsimp only at e;split at e;next j=>obtain ⟨p,m,rfl⟩:=qac.1 e;obtain ⟨q,n,l⟩:=wL h.bx m;have f:=h.tm.vals.refs;refine ⟨⟨renT (idxN · (nT a.bx reachFuel (List.range nIn++lC (a.tm.map (·.2))) [])) σ.tm,q⟩,?_,⟨h.zero,h.pos,h.F,h.tm.ren _,l⟩,rfl⟩;unfold canon;dsimp only;rw [f,ku h.bx,if_pos j,n];rfl
 grind
end
section
variable {a:ASt}{t:ET}{z:Int}{H:Lin}{F:List Fact}{σ:St}{x:X}
variable {T:Tab} {n:Nat} {ρ:Rho}
def upd (ρ:Rho)(n:Nat)(z:Int):Rho:=fun s=>if s=n then z else ρ s
theorem zeO (ρ:Rho)(n:Nat)(z:Int):upd ρ n z n=z:=if_pos rfl
theorem Ey {ρ:Rho}{n s:Nat}(h:s<n):upd ρ n z s=ρ s:=if_neg (by omega)
theorem dO (ρ:Rho)(n:Nat)(z:Int):More n ρ (n+1) (upd ρ n z):=⟨by omega,fun _ a=>Ey a⟩
theorem R.more (h:R T ρ a σ){n':Nat}{ρ':Rho}(hm:More a.nx ρ n' ρ'):R T ρ' {a with nx:=n'} σ:=
 ⟨by rw [hm.same 0 h.pos];exact h.zero,Nat.lt_of_lt_of_le h.pos hm.le,hm.facts h.F,h.tm.more hm,h.bx.more hm⟩
theorem R.zoA (h:R T ρ a σ)(hF:aV a.nx ρ F):R T ρ {a with F:=F++a.F} σ:=
 ⟨h.zero,h.pos,fun f j=>(qaO.1 j).elim (hF f) (h.F f),h.tm,h.bx⟩
theorem aV.nil {n:Nat}{ρ:Rho}:aV n ρ []:=fun f h=>by cases h
theorem aV.cons {n:Nat}{ρ:Rho}{f:Fact}(h:f.ok n ρ)(hF:aV n ρ F):aV n ρ (f::F):=fun g a=>by
 rcases qal.1 a with rfl|a;·exact h
 exact hF g a
theorem aV.append {n:Nat}{ρ:Rho}{F':List Fact}(h:aV n ρ F)(h':aV n ρ F'):aV n ρ (F++F'):=fun g a=>(qaO.1 a).elim (h g) (h' g)
def bnd (l:Lin)(lo hi:Option Int):List Fact:=
 (match lo with|some a=>[au (.k a) l]|none=>[])++(match hi with|some b=>[au l (.k b)]|none=>[])
theorem qH {l:Lin}{lo hi:Option Int}(h0:ρ 0=0)(hn:0<n)(hl:l.s<n)(h1:∀a,lo=some a->a<=l.v ρ)(h2:∀b,hi=some b->l.v ρ<=b):aV n ρ (bnd l lo hi):=by
 unfold bnd;refine aV.append ?_ ?_
 ·split;next a=>exact aV.cons (aF.2 ⟨hn,hl,by simp_all[Lin.k_v]⟩) .nil
  exact .nil
 split;next b=>exact aV.cons (aF.2 ⟨hl,hn,by simp_all[Lin.k_v]⟩) .nil
 exact .nil
def bot:Fact:=⟨0,0,-1⟩
def cb (t:Bool):AX:=if t then .b [] [bot] else .b [bot] []
theorem uP (t:Bool):G T n ρ (cb t) (.v (.bool t)):=by
 cases t;·exact .b (fun h=>by cases h) (fun _=>.nil)
 exact .b (fun _=>.nil) (fun h=>by cases h)
mutual
def ofX:X->AX
 |.v (.int k z)=>.i k (.k z)
 |.v (.bool b)=>cb b
 |.fn f cs=>.fn f (WB cs)
 |.agg cs=>.agg (WB cs)
 |.tup cs=>.tup (WB cs)
 |.dp cs=>.dp (WB cs)
 |x=>.x x
def WB:List X->List AX
 |[]=>[]
 |x::r=>ofX x::WB r
end
mutual
def X.bare:X->Bool
 |.bs _ _ _|.ptr _ _ _|.yl _|.mp _=>false
 |.fn _ cs=>zq cs
 |.agg cs=>zq cs
 |.tup cs=>zq cs
 |.dp cs=>zq cs
 |.v _|.sl _ _ _|.ifc=>true
def zq:List X->Bool
 |[]=>true
 |x::r=>X.bare x&&zq r
end
mutual
theorem QX (h0:ρ 0=0)(hn:0<n):∀(x:X),X.bare x=true->G T n ρ (ofX x) x
 |.v (.int k z),_=>.i hn (Lin.k_v h0 z).symm
 |.v (.bool b),_=>uP b
 |.fn f cs,h=>.fn (lT h0 hn cs h)
 |.agg cs,h=>.agg (lT h0 hn cs h)
 |.tup cs,h=>.tup (lT h0 hn cs h)
 |.dp cs,h=>.dp (lT h0 hn cs h)
 |.v (.float _ _),_=>.x rfl
 |.v (.complex _ _ _),_=>.x rfl
 |.v (.string _),_=>.x rfl
 |.v (.pointer _),_=>.x rfl
 |.v (.slice _ _ _),_=>.x rfl
 |.v (.map _),_=>.x rfl
 |.v (.chan _),_=>.x rfl
 |.v (.func _ _ _),_=>.x rfl
 |.v .nilFunc,_=>.x rfl
 |.v (.iface _ _),_=>.x rfl
 |.v .nilIface,_=>.x rfl
 |.v (.agg _),_=>.x rfl
 |.v (.tuple _),_=>.x rfl
 |.sl _ _ _,_=>.x rfl
 |.ifc,_=>.x rfl
theorem lT (h0:ρ 0=0)(hn:0<n):∀(xs:List X),zq xs=true->GL T n ρ (WB xs) xs
 |[],_=>.nil
 |x::r,h=>by have h:(X.bare x&&zq r)=true:=h;rw [qab] at h;exact .cons (QX h0 hn x h.1) (lT h0 hn r h.2)
end
def inst1 (h:Lin)(nx:Nat):ET->AX×Nat×List Fact
 |.i k lo hi=>(.i k ⟨nx,0⟩,nx+1,bnd ⟨nx,0⟩ lo hi)
 |.b=>(.b [] [],nx,[])
 |.s lo hi=>(.s ⟨nx,0⟩,nx+1,bnd ⟨nx,0⟩ (some lo) (some hi))
 |.sl sz k lo hi=>(.sl none sz k (h.up (-1)) ⟨nx,0⟩,nx+1,bnd ⟨nx,0⟩ (some lo) (some hi))
 |.z=>(.x (.v .nilFunc),nx,[])
 |.nX=>(.nX,nx,[])
def y9 (h:Lin):Nat->List ET->List AX×Nat×List Fact
 |nx,[]=>([],nx,[])
 |nx,t::r=>match inst1 h nx t with
  |(a,nx',F)=>match y9 h nx' r with
   |(l,zmI,F')=>(a::l,zmI,F++F')
theorem bU {ρ:Rho}{n:Nat}:(⟨n,0⟩:Lin).v (upd ρ n z)=z:=by grind[Lin.v,zeO]
theorem Xp {h:Lin}{nx:Nat}(h0:ρ 0=0)(hn:0<nx)(hh:h.s<nx)(hx:yU (D T (h.v ρ-1)) t x):∃ρ',More nx ρ (inst1 h nx t).2.1 ρ'/\G T (inst1 h nx t).2.1 ρ' (inst1 h nx t).1 x/\aV (inst1 h nx t).2.1 ρ' (inst1 h nx t).2.2:=by
 have m:∀z,upd ρ nx z 0=0:=fun z=>by grind[Ey]
 unfold yU at hx;split at hx;next k j f A z=>obtain ⟨rfl,q,u⟩:=hx;have a:aV (nx+1) (upd ρ nx z) (bnd ⟨nx,0⟩ j f):=qH (m z) (Nat.succ_pos _) (qaf _) (by grind[bU]) (by grind[bU]);exact ⟨upd ρ nx z,dO ..,.i (qaf _) bU.symm,a⟩
 ·exact ⟨ρ,.refl ..,.b (fun _=>.nil) (fun _=>.nil),.nil⟩
 ·rename_i j f bs;have a:aV (nx+1) (upd ρ nx bs.size) (bnd ⟨nx,0⟩ (some (j:Int)) (some (f:Int))):=qH (m _) (Nat.succ_pos _) (qaf _)
   (by grind[bU]) (by grind[bU])
  exact ⟨upd ρ nx bs.size,dO ..,.s (qaf _) bU.symm,a⟩
 ·rename_i B k j f E w l;obtain ⟨rfl,q,u,y⟩:=hx;have n:=dO ρ nx (l.length:Int);have a:aV (nx+1) (upd ρ nx l.length) (bnd ⟨nx,0⟩ (some (j:Int)) (some (f:Int))):=qH (m _) (Nat.succ_pos _) (qaf _)
   (by grind[bU]) (by grind[bU])
  refine ⟨upd ρ nx l.length,n,.sl (qaF hh) (qaf _) trivial bU.symm ?_,a⟩;rw [Lin.jI,n.lin hh]<;>grind
 ·exact ⟨ρ,.refl ..,.x rfl,.nil⟩
 ·rcases hx with rfl|rfl;·exact ⟨ρ,.refl ..,.ifc,.nil⟩
  exact ⟨ρ,.refl ..,.Ah,.nil⟩
 grind
theorem Le {h:Lin}:∀{ts:List ET} {xs:List X} {ρ:Rho} {nx:Nat},ρ 0=0->0<nx->h.s<nx->ETs (D T (h.v ρ-1)) ts xs->∃ρ',More nx ρ (y9 h nx ts).2.1 ρ'/\GL T (y9 h nx ts).2.1 ρ' (y9 h nx ts).1 xs/\aV (y9 h nx ts).2.1 ρ' (y9 h nx ts).2.2
 |[],[],ρ,nx,_,_,_,_=>⟨ρ,.refl ..,.nil,.nil⟩
 |t::ts,x::xs,ρ,nx,h0,hn,hh,⟨hx,hxs⟩=>by obtain ⟨ρ1,m1,g1,f1⟩:=Xp h0 hn hh hx;unfold y9;generalize inst1 h nx t=q at m1 g1 f1 ⊢;obtain ⟨a,nx1,F1⟩:=q;dsimp only at m1 g1 f1 ⊢;have hv:=m1.lin hh;obtain ⟨ρ2,m2,g2,f2⟩:=Le (ts:=ts) (xs:=xs) (ρ:=ρ1) (nx:=nx1) (by rw [m1.same 0 hn]<;>grind) (Nat.lt_of_lt_of_le hn m1.le) (m1.lt hh) (by grind);generalize y9 h nx1 ts=q at m2 g2 f2 ⊢;obtain ⟨l,nx2,F2⟩:=q;exact ⟨ρ2,m1.trans m2,.cons (g1.more m2) g2,(m2.facts f1).append f2⟩
def oLe (F:List Fact)(lo:Option Int)(l:Lin):Bool:=match lo with|none=>true|some a=>leL F (.k a) l
def oGe (F:List Fact)(hi:Option Int)(l:Lin):Bool:=match hi with|none=>true|some b=>leL F l (.k b)
def zjN (S:Nat->Nat->Bool)(F:List Fact)(H:Lin):ET->AX->Bool
 |.i k lo hi,.i k' l=>decide (k'=k)&&oLe F lo l&&oGe F hi l
 |.b,.b _ _=>true
 |.s lo hi,.s l=>leL F (.k lo) l&&leL F l (.k hi)
 |.s lo hi,.x (.v (.string bs))=>Nat.ble lo bs.size&&Nat.ble bs.size hi
 |.sl sz k lo hi,.sl _ sz' k' h l=>Nat.beq sz' sz&&(leL F l (.k 0)||(S k' k&&leL F h (H.up (-1))))&&leL F (.k lo) l&&leL F l (.k hi)
 |.sl sz _ lo _,.x (.sl _ sz' [])=>Nat.beq sz' sz&&Nat.beq lo 0
 |.z,.x (.v .nilFunc)=>true
 |.nX,.nX=>true
 |.nX,.x .ifc=>true
 |.nX,.x (.v .nilIface)=>true
 |_,_=>false
def zhP (S:Nat->Nat->Bool)(F:List Fact)(H:Lin):List ET->List AX->Bool
 |[],[]=>true
 |t::ts,a::l=>zjN S F H t a&&zhP S F H ts l
 |_,_=>false
def fits (T:Tab)(F:List Fact)(H:Lin)(k:Nat)(cs:List AX):Bool:=leL F (.k 1) H&&(T k).any fun alt=>zhP (kle T) F H alt cs
theorem zdi (h0:ρ 0=0)(hF:aV n ρ F){S:Nat->Nat->Bool}(hS:SOk T S){a:AX}(h:zjN S F H t a=true)(hg:G T n ρ a x):yU (D T (H.v ρ-1)) t x:=by
 unfold zjN at h;split at h
 ·cases hg with
  |i h1 h2=>
   simp at h;obtain ⟨⟨j,l⟩,m⟩:=h;refine ⟨j,fun a e=>?_,fun b e=>?_⟩;·subst e;have:=aO hF l<;>grind[Lin.k_v]
   subst e;have:=aO hF m<;>grind[Lin.k_v]
 ·cases hg;trivial
 ·cases hg with
  |s h1 h2=>rw [qab] at h;have j:=aO hF h.1;have l:=aO hF h.2;rw [Lin.k_v h0] at j l;exact ⟨by omega,by omega⟩
 ·cases hg;rw [qab] at h;exact ⟨Nat.le_of_ble_eq_true h.1,Nat.le_of_ble_eq_true h.2⟩
 ·cases hg with
  |sl h1 h2 j l m=>
   simp only [qab,Bool.or_eq_true] at h;obtain ⟨⟨⟨w,f⟩,y⟩,A⟩:=h;have E:=aO hF y;have J:=aO hF A;rw [Lin.k_v h0] at E J;refine ⟨qaj w,by omega,by omega,fun e u=>?_⟩;rcases f with f|⟨f,B⟩;·have q:=aO hF f<;>grind[Lin.k_v]
   have q:=aO hF B;rw [Lin.jI] at q;exact hS f (iF (by omega) (m e u))
 ·cases hg;rw [qab] at h;have:=qaj h.2;subst this;exact ⟨qaj h.1,Nat.zero_le _,Nat.zero_le _,fun e u=>by grind⟩
 ·cases hg;trivial
 ·cases hg;·exact .inl rfl
  exact .inr rfl
 ·cases hg;exact .inl rfl
 ·cases hg;exact .inr rfl
 grind
theorem SS {F:List Fact}(h0:ρ 0=0)(hF:aV n ρ F){H:Lin}{S:Nat->Nat->Bool}(hS:SOk T S):∀{ts:List ET} {l:List AX} {xs:List X},zhP S F H ts l=true->GL T n ρ l xs->ETs (D T (H.v ρ-1)) ts xs
 |[],[],_,_,.nil=>trivial
 |t::ts,a::l,_,h,.cons h1 h2=>by unfold zhP at h;rw [qab] at h;exact ⟨zdi h0 hF hS h.1 h1,SS h0 hF hS h.2 h2⟩
theorem Js (h0:ρ 0=0)(hF:aV n ρ F){k:Nat}{cs:List AX}{xs:List X}(h:fits T F H k cs=true)(hg:GL T n ρ cs xs):D T (H.v ρ) k xs:=by unfold fits at h;rw [qab] at h;obtain ⟨a,j,l⟩:=List.any_eq_true.1 h.2;have f:=aO hF h.1<;>grind[Lin.k_v,eX,SS,sok]
end
section
variable {a:ASt}{p y:AX}{cs new:List AX}{xs:List X}{σ:St}{q:X}
variable {T:Tab} {n:Nat} {ρ:Rho}
def lkA:List (Nat×AX)->Nat->Option AX
 |[],_=>none
 |(k,x)::r,n=>if k==n then some x else lkA r n
theorem gI:∀{l:List (Nat×AX)} {m:List (Nat×X)} {s:Nat} {a:AX},GT T n ρ l m->lkA l s=some a->∃x,lk m s=some x/\G T n ρ a x
 |_,_,_,_,.nil,e=>by cases e
 |_,_,s,a,.cons (k:=k) h1 h2,e=>by
  unfold lkA at e;unfold lk;split at e
  ·grind
  rename_i hk;rw [if_neg hk];exact gI h2 e
theorem nH:∀{l:List (Nat×AX)} {m:List (Nat×X)} {s:Nat},GT T n ρ l m->lkA l s=none->lk m s=none
 |_,_,_,.nil,_=>rfl
 |_,_,s,.cons (k:=k) h1 h2,e=>by
  unfold lkA at e;unfold lk;split at e;·cases e
  rename_i hk;rw [if_neg hk];exact nH h2 e
def ASt.ev (a:ASt):Opd->Option AX
 |.t m=>lkA a.tm m
 |.k x=>if X.bare x then some (ofX x) else none
theorem bH (h:R T ρ a σ){o:Opd}(e:a.ev o=some y):∃x,σ.ev o=some x/\G T a.nx ρ y x:=by
 cases o with
 |t m=>exact gI h.tm e
 |k x=>
  unfold ASt.ev at e;dsimp only at e;split at e;next f=>cases e;exact ⟨x,rfl,QX h.zero h.pos x f⟩
  grind
def zdj (a:ASt):List Opd->Option (List AX)
 |[]=>some []
 |o::r=>match a.ev o with
  |none=>none
  |some x=>(zdj a r).map (x::·)
theorem Di {a:ASt}{σ:St}(h:R T ρ a σ):∀{l:List Opd} {ys:List AX},zdj a l=some ys->∃xs,evs σ l=some xs/\GL T a.nx ρ ys xs
 |[],ys,e=>by simp only [zdj,qah] at e;subst e;exact ⟨[],rfl,.nil⟩
 |o::r,ys,e=>by
  unfold zdj at e;split at e;·cases e
  rename_i y hy;obtain ⟨ys',h1,rfl⟩:=qac.1 e;obtain ⟨x,hx,hg⟩:=bH h hy;obtain ⟨xs,hxs,hgs⟩:=Di h h1;exact ⟨x::xs,by grind[evs],.cons hg hgs⟩
def AX.cells:AX->Option (List AX)
 |.agg cs=>some cs
 |.tup _=>none
 |.x (.agg _)=>none
 |.x (.tup _)=>none
 |.x (.v (.tuple _))=>none
 |.el _ _=>none
 |a=>some [a]
theorem cells_ok {a:AX}{x:X}(hg:G T n ρ a x)(h:a.cells=some cs):x.ok1=true/\GL T n ρ cs x.cells:=by
 unfold AX.cells at h;split at h<;>try grind
 ·cases h;cases hg with|agg f=>exact ⟨rfl,f⟩
 rename_i a f l m q u w;cases h;have j:x.ok1=true/\x.cells=[x]:=by
  cases hg with
  |agg _=>grind
  |tup _=>grind
  |x hr=>
   cases x with
   |agg cs=>grind
   |tup cs=>grind
   |v y=>
    cases y with
    |tuple t=>grind
    |_=>exact ⟨rfl,rfl⟩
   |_=>exact ⟨rfl,rfl⟩
  |el _ _=>grind
  |_=>exact ⟨rfl,rfl⟩
 rw [j.2];exact ⟨j.1,.one hg⟩
def vZ (cs:List AX)(o:Nat)(new:List AX):Option (List AX):=
 if o+new.length<=cs.length then some (cs.take o++new++cs.drop (o+new.length)) else none
theorem qN {r:List AX}{xn:List X}{o:Nat}(h1:GL T n ρ cs xs)(h2:GL T n ρ new xn)(e:vZ cs o new=some r):∃xr,splice xs o xn=some xr/\GL T n ρ r xr:=by
 unfold vZ at e;split at e
 ·rename_i a;cases e;refine ⟨xs.take o++xn++xs.drop (o+xn.length),?_,?_⟩;·unfold splice;rw [<-h1.len,<-h2.len,if_pos a]
  rw [<-h2.len];exact ((h1.take o).append h2).append (h1.drop _)
 grind
def UJ (l:Lin):Bool:=Nat.beq l.s 0&&(match l.c with|.ofNat 0=>true|_=>false)
theorem l7 {l:Lin}(h:UJ l=true)(h0:ρ 0=0):l.v ρ=0:=by
 unfold UJ at h;rw [qab] at h
 grind[Lin.v,qaj]
def N9 (T:Tab)(a:ASt)(k:Nat)(h:Lin):List (List AX×ASt):=if leL a.F h (.k 0) then [] else (T k).map fun alt=>match y9 h a.nx alt with
 |(cs,nx,F)=>(cs,{a with nx:=nx,F:=au (.k 1) h::(F++a.F)})
theorem vF (hr:R T ρ a σ){k:Nat}{h:Lin}(hh:h.s<a.nx)(hd:D T (h.v ρ) k xs):∃q,q∈N9 T a k h/\∃ρ',More a.nx ρ q.2.nx ρ'/\R T ρ' q.2 σ/\GL T q.2.nx ρ' q.1 xs:=by
 obtain ⟨H,l,y,B⟩:=oN hd;obtain ⟨ρ',j,n,m⟩:=Le hr.zero hr.pos hh B;have u:¬leL a.F h (.k 0)=true:=fun A=>by have:=aO hr.F A;rw [Lin.k_v hr.zero] at this;omega
 unfold N9;rw [if_neg u];refine ⟨_,qam.2 ⟨l,y,rfl⟩,ρ',?_⟩;generalize y9 h a.nx l=q at j n m ⊢;obtain ⟨E,nx,F⟩:=q;dsimp only at j n m ⊢;refine ⟨j,?_,n⟩;have f:=hr.more j;have w:(au (.k 1) h).ok nx ρ':=aF.2 ⟨f.pos,j.lt hh,by rw [Lin.k_v f.zero,j.lin hh]<;>grind⟩;exact ⟨f.zero,f.pos,aV.cons w (m.append f.F),f.tm,f.bx⟩
def zbx (T:Tab)(a:ASt):AX->Option (List (List AX×ASt))
 |.ptr i e o=>match a.bx[i]? with
  |some (.var cs)=>if UJ e then some [(cs.drop o,a)] else none
  |some (.row _ k h l)=>if leL a.F (e.up 1) l&&leL a.F (.k 0) e then some ((N9 T a k h).map fun q=>(q.1.drop o,q.2)) else none
  |_=>none
 |.dp cs=>some [(cs,a)]
 |_=>none
theorem iR {α:Type}{l:List α}{i:Nat}(h:i<l.length):∃x,l[i]?=some x/\x∈l:=by intros;simp_all
theorem WS (hr:R T ρ a σ)(hp:G T a.nx ρ p q){outs:List (List AX×ASt)}(e:zbx T a p=some outs):
  ∃r,r∈outs/\∃ρ' xs,More a.nx ρ r.2.nx ρ'/\R T ρ' r.2 σ/\GL T r.2.nx ρ' r.1 xs/\loadCs σ q=some xs:=by
 unfold zbx at e;split at e
 ·rename_i i M o;cases hp with
  |ptr h1 h2=>
   rename_i u;split at e
   ·rename_i L m;split at e
    ·rename_i hz;cases e;obtain ⟨b,n,f⟩:=hr.bx.get m;cases f with
     |var f=>
      have N:=l7 hz hr.zero;have:u=0:=by omega
      subst this;exact ⟨_,qaa.2 rfl,ρ,_,.refl ..,hr,f.drop o,by grind[loadCs]⟩
    grind
   ·rename_i P k h l m;split at e
    ·rename_i w;cases e;rw [qab] at w;obtain ⟨b,n,f⟩:=hr.bx.get m;cases f with
     |row g1 g2 g3 g4=>rename_i A;have y:=aO hr.F w.1;rw [Lin.jI] at y;obtain ⟨x,O,j⟩:=iR (show u<A.length by omega);obtain ⟨q,B,ρ',E,H,J⟩:=vF hr g1 (g4 x j);exact ⟨_,qam.2 ⟨q,B,rfl⟩,ρ',_,E,H,J.drop o,by grind[loadCs]⟩
    grind
   grind
 ·cases e;cases hp with
  |dp f=>exact ⟨_,qaa.2 rfl,ρ,_,.refl ..,hr,f,rfl⟩
 grind
def takeA (m:Option Nat)(cs:List AX):Option AX:=match m with
 |none=>cs.head?
 |some m=>if (cs.take m).length==m then some (.agg (cs.take m)) else none
theorem uS {m:Option Nat}(hg:GL T n ρ cs xs)(e:takeA m cs=some y):∃x,(match m with|none=>xs.head?|some m=>if (xs.take m).length==m then some (X.agg (xs.take m)) else none)=some x/\G T n ρ y x:=by
 cases m with
 |none=>
  cases hg<;>simp_all[takeA]
 |some m=>
  unfold takeA at e;dsimp only at e ⊢;split at e;next f=>cases e;have a:=hg.take m;rw [<-a.len,if_pos f];exact ⟨_,rfl,.agg a⟩
  grind
def PU (T:Tab)(a:ASt)(m:Nat)(p:AX)(new:List AX):Option ASt:=
 if new.length==m then match p with
  |.ptr i e o=>match a.bx[i]? with
   |some (.var cs)=>if UJ e then (vZ cs o new).map fun cs'=>{a with bx:=a.bx.set i (.var cs')} else none
   |some (.row _ k h l)=>if (lC new).isEmpty&&leL a.F (e.up 1) l&&leL a.F (.k 0) e&&(N9 T a k h).all (fun q=>match vZ q.1 o new with|some cs'=>fits T q.2.F h k cs'|none=>false) then some a else none
   |_=>none
  |_=>none
 else none
theorem GBs.same:∀{l:List ABx} {m:List Bx} {i:Nat} {a:ABx} {x:Bx},GBs T n ρ l m->l[i]?=some a->GB T n ρ a x->GBs T n ρ l (m.set i x)
 |_,_,i,_,_,.nil,e,_=>by grind
 |_,_,0,_,_,.cons _ h2,e,hx=>by simp at e;subst e;exact .cons hx h2
 |_,_,i+1,_,_,.cons h1 h2,e,hx=>.cons h1 (h2.same (by grind) hx)
theorem PS {a':ASt}(hr:R T ρ a σ){y:X}{m:Nat}(hp:G T a.nx ρ p q)(h1:y.ok1=true)(hn:GL T a.nx ρ new y.cells)(e:PU T a m p new=some a'):
  ∃bx,storeX σ.bx m q y=some bx/\R T ρ a' ⟨σ.tm,bx⟩/\a'.nx=a.nx:=by
 unfold PU at e;split at e
 ·rename_i hm;have J:(y.ok1&&y.cells.length==m)=true:=by rw [h1,<-hn.len];exact hm
  split at e
  ·rename_i i e0 o;cases hp with
   |ptr p1 p2=>
    rename_i E;split at e
    ·rename_i cs A;split at e
     ·rename_i hz;obtain ⟨B,H,rfl⟩:=qac.1 e;obtain ⟨b,j,n⟩:=hr.bx.get A;cases n with
      |var n=>
       have h0:=l7 hz hr.zero;have:E=0:=by omega
       subst this;obtain ⟨M,Q,f⟩:=qN n hn H;refine ⟨σ.bx.set i (.var M),?_,⟨hr.zero,hr.pos,hr.F,hr.tm,hr.bx.set i (.var f)⟩,rfl⟩<;>simp_all[storeX]
     grind
    ·rename_i sz k h l A;split at e
     ·rename_i P;cases e;simp only [qab,qas] at P;obtain ⟨⟨⟨V,W⟩,c3⟩,Y⟩:=P;obtain ⟨b,j,n⟩:=hr.bx.get A;cases n with
      |row g1 g2 g3 g4=>
       rename_i O;have Z:=aO hr.F W;rw [Lin.jI] at Z;obtain ⟨x,Q,u⟩:=iR (show E<O.length by omega);obtain ⟨q,hq,ρ',S,U,m3⟩:=vF hr g1 (g4 x u);have N:=Y q hq;split at N
       ·rename_i B hs;obtain ⟨M,L,f⟩:=qN m3 (hn.more S) hs;have hd:=Js U.zero U.F N f;rw [S.lin g1] at hd;refine ⟨σ.bx.set i (.row sz (O.set E M)),?_,⟨hr.zero,hr.pos,hr.F,hr.tm,hr.bx.same A (.row g1 g2 (by grind) fun w hw=>?_)⟩,rfl⟩;·unfold storeX;rw [if_pos J];dsimp only;rw [j];dsimp only;rw [Q];dsimp only;rw [hn.refs,if_pos V,L];rfl
        grind
       grind
     grind
    grind
  grind
 grind
end
section
variable {a:ASt}{i:I}{z:Int}{k:IntKind}{b c l x y:Lin}{F:List Fact}{σ:St}
variable {T:Tab} {n:Nat} {ρ:Rho}
def UH:IntKind->Int
 |.i8=>-128|.i16=>-32768|.i32=>-2147483648|.i64=>-9223372036854775808
 |_=>0
def Rk:IntKind->Int
 |.i8=>127|.i16=>32767|.i32=>2147483647|.i64=>9223372036854775807
 |.u8=>255|.u16=>65535|.u32=>4294967295|_=>18446744073709551615
theorem iU (k:IntKind)(z:Int):UH k<=k.wrap z:=by
 cases k<;>simp [IntKind.wrap,IntKind.bits,IntKind.signed,UH]<;>(try split)<;>omega
theorem iW (k:IntKind)(z:Int):k.wrap z<=Rk k:=by
 cases k<;>simp [IntKind.wrap,IntKind.bits,IntKind.signed,Rk]<;>(try split)<;>omega
theorem vK (h1:UH k<=z)(h2:z<=Rk k):k.wrap z=z:=by
 cases k<;>simp only [UH,Rk] at h1 h2<;>simp [IntKind.wrap,IntKind.bits,IntKind.signed]<;>(try split)<;>omega
abbrev Out:=AX×ASt×FP
def fp0:FP:=⟨false,[],[]⟩
def OpOk (T:Tab)(ρ:Rho)(a:ASt)(σ:St)(i:I)(outs:List Out):Prop:=
 ∃o,o∈outs/\∃ρ' x bx,More a.nx ρ o.2.1.nx ρ'/\R T ρ' o.2.1 ⟨σ.tm,bx⟩/\G T o.2.1.nx ρ' o.1 x/\∀Γ,stepI Γ σ i=some (x,bx,o.2.2)
theorem OpOk.one {y:AX}{x:X}{fp:FP}(hr:R T ρ a σ)(hg:G T a.nx ρ y x)(hs:∀Γ,stepI Γ σ i=some (x,σ.bx,fp)):OpOk T ρ a σ i [(y,a,fp)]:=
 ⟨_,qaa.2 rfl,ρ,x,σ.bx,.refl ..,hr,hg,hs⟩
def OZ (a:ASt)(k:IntKind)(Fs:List Fact):Out:=(.i k ⟨a.nx,0⟩,{a with nx:=a.nx+1,F:=Fs++a.F},fp0)
theorem jd {Fs:List Fact}(hr:R T ρ a σ)(hF:aV (a.nx+1) (upd ρ a.nx z) Fs)(hs:∀Γ,stepI Γ σ i=some (.v (.int k z),σ.bx,fp0)):OpOk T ρ a σ i [OZ a k Fs]:=by have h:=dO ρ a.nx z;have f:=hr.more h;exact ⟨_,qaa.2 rfl,upd ρ a.nx z,_,σ.bx,h,⟨f.zero,f.pos,hF.append f.F,f.tm,f.bx⟩,.i (qaf _) bU.symm,hs⟩
def ziC (a:ASt)(l:Lin)(Fs:List Fact):Out:=(.s l,{a with nx:=a.nx+1,F:=Fs++a.F},fp0)
def low (F:List Fact)(l:Lin):Option Int:=
 if Nat.beq l.s 0 then some l.c else (zeD (rounds 3 F [(0,0)]) l.s).map fun d=>l.c-d
def high (F:List Fact)(l:Lin):Option Int:=
 if Nat.beq l.s 0 then some l.c else (zeD (rounds 3 F [(l.s,0)]) 0).map fun d=>l.c+d
theorem pW (h0:ρ 0=0)(hF:aV n ρ F){c:Int}(h:low F l=some c):c<=l.v ρ:=by
 unfold low at h;unfold Lin.v;split at h;·simp_all
 obtain ⟨d,f,rfl⟩:=qac.1 h;have a:ZT ρ 0 [(0,0)]:=fun p m=>by grind
 have j:=wJ hF 3 a _ (vG f)<;>grind
theorem gZ (h0:ρ 0=0)(hF:aV n ρ F){c:Int}(h:high F l=some c):l.v ρ<=c:=by
 unfold high at h;unfold Lin.v;split at h;·simp_all
 obtain ⟨d,f,rfl⟩:=qac.1 h;have a:ZT ρ l.s [(l.s,0)]:=fun p m=>by grind
 have j:=wJ hF 3 a _ (vG f)<;>grind
def OT (a b:Lin):Option Lin:=if Nat.beq b.s 0 then some (a.up b.c) else if Nat.beq a.s 0 then some (b.up a.c) else none
def zet (a b:Lin):Option Lin:=if Nat.beq b.s 0 then some (a.up (-b.c)) else if Nat.beq a.s b.s then some (.k (a.c-b.c)) else none
theorem kV (h0:ρ 0=0){a:Lin}(h:OT a b=some c):c.v ρ=a.v ρ+b.v ρ:=by grind[OT,Lin.jI,Lin.v,qaj]
theorem PI (h0:ρ 0=0){a:Lin}(h:zet a b=some c):c.v ρ=a.v ρ-b.v ρ:=by grind[zet,Lin.jI,Lin.v,qaj,Lin.k_v]
theorem yT {a:Lin}(h:OT a b=some c)(ha:a.s<n)(hb:b.s<n):c.s<n:=by
 unfold OT at h;split at h;·cases h;exact ha
 split at h;·cases h;exact hb
 grind
theorem PK {a:Lin}(hn:0<n)(h:zet a b=some c)(ha:a.s<n):c.s<n:=by
 unfold zet at h;split at h;·cases h;exact ha
 split at h;·cases h;exact hn
 grind
def anyI (a:ASt)(k:IntKind):Out:=OZ a k (bnd ⟨a.nx,0⟩ (some (UH k)) (some (Rk k)))
theorem jq (hr:R T ρ a σ)(h1:UH k<=z)(h2:z<=Rk k)(hs:∀Γ,stepI Γ σ i=some (.v (.int k z),σ.bx,fp0)):OpOk T ρ a σ i [anyI a k]:=
 jd hr (qH (by rw [Ey hr.pos];exact hr.zero) (Nat.succ_pos _) (qaf _) (by grind[bU]) (by grind[bU])) hs
def inI (a:ASt)(k:IntKind)(l:Lin):Option Out:=if leL a.F (.k (UH k)) l&&leL a.F l (.k (Rk k)) then some (.i k l,a,fp0) else none
def zke (a:ASt)(k:IntKind)(x y:Lin):Out:=
 match OT x y with
 |some l=>(inI a k l).getD (anyI a k)
 |none=>match low a.F x,low a.F y,high a.F x,high a.F y with
  |some lx,some ly,some hx,some hy=>
   if leI (UH k) (lx+ly)&&leI (hx+hy) (Rk k) then
    OZ a k (au (x.up ly) ⟨a.nx,0⟩::au (y.up lx) ⟨a.nx,0⟩::au ⟨a.nx,0⟩ (x.up hy)::[au ⟨a.nx,0⟩ (y.up hx)])
   else anyI a k
  |_,_,_,_=>anyI a k
def zho (a:ASt)(k:IntKind)(x y:Lin):Out:=
 match zet x y with
 |some l=>(inI a k l).getD (anyI a k)
 |none=>match low a.F x,low a.F y,high a.F x,high a.F y with
  |some lx,some ly,some hx,some hy=>
   if leI (UH k) (lx-hy)&&leI (hx-ly) (Rk k) then
    OZ a k (au (x.up (-hy)) ⟨a.nx,0⟩::au ⟨a.nx,0⟩ (x.up (-ly))::(if leL a.F y x then [au (.k 0) ⟨a.nx,0⟩] else []))
   else anyI a k
  |_,_,_,_=>anyI a k
theorem zga {o:Out}(hr:R T ρ a σ)(hl:l.s<a.nx)(hz:l.v ρ=z)(hs:∀Γ,stepI Γ σ i=some (.v (.int k (k.wrap z)),σ.bx,fp0))(h:inI a k l=some o):OpOk T ρ a σ i [o]:=by
 unfold inI at h;split at h;next f=>cases h;rw [qab] at f;have j:=aO hr.F f.1;have m:=aO hr.F f.2;rw [Lin.k_v hr.zero] at j m;exact .one hr (.i hl hz.symm) (fun Γ=>by grind[vK])
 grind
theorem Jm (hr:R T ρ a σ)(hl:l.s<a.nx)(hz:l.v ρ=z)(hs:∀Γ,stepI Γ σ i=some (.v (.int k (k.wrap z)),σ.bx,fp0)):OpOk T ρ a σ i [(inI a k l).getD (anyI a k)]:=by
 cases h:inI a k l with
 |none=>exact jq hr (iU k z) (iW k z) hs
 |some o=>exact zga hr hl hz hs h
theorem zef (hr:R T ρ a σ)(hx:x.s<a.nx)(hy:y.s<a.nx)(hs:∀Γ,stepI Γ σ i=some (.v (.int k (k.wrap (x.v ρ+y.v ρ))),σ.bx,fp0)):OpOk T ρ a σ i [zke a k x y]:=by
 have f:=dO ρ a.nx (x.v ρ+y.v ρ);unfold zke;split;next l h=>exact Jm hr (yT h hx hy) (kV hr.zero h) hs
 split
 ·rename_i L M w A j m n q;have B:=pW hr.zero hr.F j;have E:=pW hr.zero hr.F m;have H:=gZ hr.zero hr.F n;have J:=gZ hr.zero hr.F q;split
  ·rename_i u;rw [qab,gX,gX] at u;refine jd hr (z:=x.v ρ+y.v ρ) (aV.cons ?_ (aV.cons ?_ (aV.cons ?_ (aV.cons ?_ .nil)))) (fun Γ=>by grind[vK]);·exact aF.2 ⟨qaF hx,qaf _,by rw [Lin.jI,bU,f.lin hx];omega⟩
   ·exact aF.2 ⟨qaF hy,qaf _,by rw [Lin.jI,bU,f.lin hy];omega⟩
   ·exact aF.2 ⟨qaf _,qaF hx,by rw [Lin.jI,bU,f.lin hx];omega⟩
   exact aF.2 ⟨qaf _,qaF hy,by rw [Lin.jI,bU,f.lin hy];omega⟩
  exact jq hr (iU k _) (iW k _) hs
 exact jq hr (iU k _) (iW k _) hs
theorem PL (hr:R T ρ a σ)(hx:x.s<a.nx)(hy:y.s<a.nx)(hs:∀Γ,stepI Γ σ i=some (.v (.int k (k.wrap (x.v ρ-y.v ρ))),σ.bx,fp0)):OpOk T ρ a σ i [zho a k x y]:=by
 have j:=dO ρ a.nx (x.v ρ-y.v ρ);unfold zho;split;next l h=>exact Jm hr (PK hr.pos h hx) (PI hr.zero h) hs
 split
 ·rename_i M N A B m n q u;have E:=pW hr.zero hr.F m;have H:=pW hr.zero hr.F n;have J:=gZ hr.zero hr.F q;have L:=gZ hr.zero hr.F u;split
  ·rename_i w;rw [qab,gX,gX] at w;refine jd hr (z:=x.v ρ-y.v ρ) (aV.cons ?_ (aV.cons ?_ ?_)) (fun Γ=>by grind[vK]);·exact aF.2 ⟨qaF hx,qaf _,by rw [Lin.jI,bU,j.lin hx];omega⟩
   ·exact aF.2 ⟨qaf _,qaF hx,by rw [Lin.jI,bU,j.lin hx];omega⟩
   split;next f=>have:=aO hr.F f;exact aV.cons (aF.2 ⟨Nat.succ_pos _,qaf _,by rw [bU,Lin.k_v (by rw [Ey hr.pos];exact hr.zero)];omega⟩) .nil
   exact .nil
  exact jq hr (iU k _) (iW k _) hs
 exact jq hr (iU k _) (iW k _) hs
end
section
variable {a:ASt}{op:BinOp}{i:I}{k:IntKind}{x y:Lin}{σ:St}
variable {T:Tab} {n:Nat} {ρ:Rho}
theorem zd2 (k:IntKind)(x y:Int):binV .add (.int k x) (.int k y)=some (.int k (k.wrap (x+y))):=by simp [binV,binOp,Op.intArith,pureOf];rfl
theorem zdN (k:IntKind)(x y:Int):binV .sub (.int k x) (.int k y)=some (.int k (k.wrap (x-y))):=by simp [binV,binOp,Op.intArith,pureOf];rfl
theorem zdU (k:IntKind)(x y:Int):binV .mul (.int k x) (.int k y)=some (.int k (k.wrap (x*y))):=by simp [binV,binOp,Op.intArith,pureOf];rfl
theorem zdS (k:IntKind)(x y:Int)(h:y≠0):binV .quo (.int k x) (.int k y)=some (.int k (k.wrap (x.tdiv y))):=by simp [binV,binOp,Op.intDiv,pureOf,h];rfl
theorem zdR (k:IntKind)(x y:Int)(h:y≠0):binV .rem (.int k x) (.int k y)=some (.int k (x.tmod y)):=by simp [binV,binOp,Op.intDiv,pureOf,h];rfl
theorem zdQ (k k':IntKind)(x y:Int)(h:¬y<0):binV .shl (.int k x) (.int k' y)=some (.int k (k.wrap (x*2^min y.toNat k.bits))):=by simp [binV,binOp,Op.shift,pureOf,h];rfl
theorem zdP (k k':IntKind)(x y:Int)(h:¬y<0):binV .shr (.int k x) (.int k' y)=some (.int k (x.fdiv (2^min y.toNat k.bits))):=by simp [binV,binOp,Op.shift,pureOf,h];rfl
theorem zdZ (k:IntKind)(x y:Int):binV .eql (.int k x) (.int k y)=some (.bool (x==y)):=by simp [binV,binOp,Op.intCmp,pureOf];rfl
theorem zdT (k:IntKind)(x y:Int):binV .neq (.int k x) (.int k y)=some (.bool (x !=y)):=by simp [binV,binOp,Op.intCmp,pureOf];rfl
theorem zdV (k:IntKind)(x y:Int):binV .lss (.int k x) (.int k y)=some (.bool (x<y)):=by simp [binV,binOp,Op.intCmp,pureOf];rfl
theorem zdW (k:IntKind)(x y:Int):binV .leq (.int k x) (.int k y)=some (.bool (x<=y)):=by simp [binV,binOp,Op.intCmp,pureOf];rfl
theorem zdX (k:IntKind)(x y:Int):binV .gtr (.int k x) (.int k y)=some (.bool (x>y)):=by simp [binV,binOp,Op.intCmp,pureOf];rfl
theorem zdY (k:IntKind)(x y:Int):binV .geq (.int k x) (.int k y)=some (.bool (x>=y)):=by simp [binV,binOp,Op.intCmp,pureOf];rfl
def ZC:BinOp->Bool
 |.and|.or|.xor|.andNot=>true
 |_=>false
theorem YN (k:IntKind)(x y:Int)(h:ZC op=true):∃z,binV op (.int k x) (.int k y)=some (.int k (k.wrap z)):=by
 cases op<;>first
  |exact absurd h (by decide)
  |exact ⟨((BitVec.ofInt k.bits x&&& BitVec.ofInt k.bits y).toNat:Int),by simp only [binV,binOp,Op.intBits,ne_eq,not_true_eq_false,if_false];rfl⟩
  |exact ⟨((BitVec.ofInt k.bits x|||BitVec.ofInt k.bits y).toNat:Int),by simp only [binV,binOp,Op.intBits,ne_eq,not_true_eq_false,if_false];rfl⟩
  |exact ⟨((BitVec.ofInt k.bits x^^^BitVec.ofInt k.bits y).toNat:Int),by simp only [binV,binOp,Op.intBits,ne_eq,not_true_eq_false,if_false];rfl⟩
  |exact ⟨((BitVec.ofInt k.bits x&&& ~~~BitVec.ofInt k.bits y).toNat:Int),by simp only [binV,binOp,Op.intBits,ne_eq,not_true_eq_false,if_false];rfl⟩
def Xb:BinOp->Bool
 |.eql|.neq|.lss|.leq|.gtr|.geq=>true
 |_=>false
theorem zdO (x y:qaX)(h:Xb op=true):∃b,binV op (.string x) (.string y)=some (.bool b):=by
 cases op<;>first
  |exact absurd h (by decide)
  |exact ⟨_,rfl⟩
theorem zd1 (x y:qaX)(h:((x.size+y.size:Nat):Int)<=9223372036854775807):binV .add (.string x) (.string y)=some (.string (x++y)):=by
 have a:¬((x.size+y.size:Nat):Int)>IntKind.i64.max:=by
  have:IntKind.i64.max=9223372036854775807:=by decide
  omega
 simp only [binV,binOp,Op.stringOp,if_neg a];rfl
theorem zeS (k:IntKind)(x:Int):unV .neg (.int k x)=some (.int k (k.wrap (0-x))):=by simp [unV,Op.unary,Op.intArith,pureOf];rfl
theorem zeQ (k:IntKind)(x:Int):∃z,unV .xor (.int k x)=some (.int k (k.wrap z)):=by exact ⟨((BitVec.ofInt k.bits (if k.signed then -1 else k.max)^^^BitVec.ofInt k.bits x).toNat:Int),rfl⟩
theorem zeR (b:Bool):unV .not (.bool b)=some (.bool !b):=by simp [unV,Op.unary,pureOf];rfl
def nonneg (F:List Fact)(l:Lin):Bool:=leL F (.k 0) l
def ziD (a:ASt)(k:IntKind)(x y:Lin):Out:=
 match low a.F x,low a.F y,high a.F x,high a.F y with
 |some lx,some ly,some hx,some hy=>if leI 0 lx&&leI 0 ly&&leI (hx*hy) (Rk k) then OZ a k (bnd ⟨a.nx,0⟩ (some (lx*ly)) (some (hx*hy))) else anyI a k
 |_,_,_,_=>anyI a k
theorem Rj (k:IntKind):UH k<=0:=by cases k<;>decide
theorem jw (hr:R T ρ a σ)(z:Int):upd ρ a.nx z 0=0:=by rw [Ey hr.pos];exact hr.zero
theorem zbr (hr:R T ρ a σ)(hs:∀Γ,stepI Γ σ i=some (.v (.int k (k.wrap (x.v ρ*y.v ρ))),σ.bx,fp0)):OpOk T ρ a σ i [ziD a k x y]:=by
 unfold ziD;split
 ·rename_i O P H J w A B E;have j:=pW hr.zero hr.F w;have l:=pW hr.zero hr.F A;have m:=gZ hr.zero hr.F B;have n:=gZ hr.zero hr.F E;split;next h=>simp [gX] at h;obtain ⟨⟨q,f⟩,L⟩:=h;have u:=Int.mul_le_mul j l f (by omega);have M:=Int.mul_le_mul m n (by omega) (by omega);have N:=Int.mul_nonneg q f;have:=Rj k;exact jd hr (qH (jw hr _) (Nat.succ_pos _) (qaf _) (by rw [bU];intro a e;cases e;exact u) (by grind[bU])) (fun Γ=>by grind[vK])
  exact jq hr (iU k _) (iW k _) hs
 exact jq hr (iU k _) (iW k _) hs
def ziv (a:ASt)(k:IntKind)(x:Lin):Out:=
 if nonneg a.F x&&leL a.F x (.k (Rk k)) then OZ a k [au (.k 0) ⟨a.nx,0⟩,au ⟨a.nx,0⟩ x] else anyI a k
theorem zbc {z:Int}(hr:R T ρ a σ)(hx:x.s<a.nx)(h1:0<=x.v ρ->0<=z/\z<=x.v ρ)(hs:∀Γ,stepI Γ σ i=some (.v (.int k (k.wrap z)),σ.bx,fp0)):OpOk T ρ a σ i [ziv a k x]:=by
 unfold ziv;split
 ·rename_i f;rw [qab] at f;have h:=aO hr.F f.1;have j:=aO hr.F f.2;rw [Lin.k_v hr.zero] at h j;obtain ⟨m,n⟩:=h1 h;have:=Rj k;have l:=dO ρ a.nx z;refine jd hr (z:=z) (aV.cons ?_ (aV.cons ?_ .nil)) (fun Γ=>by grind[vK]);·exact aF.2 ⟨Nat.succ_pos _,qaf _,by grind[bU,Lin.k_v,jw]⟩
  exact aF.2 ⟨qaf _,qaF hx,by rw [bU,l.lin hx]<;>grind⟩
 exact jq hr (iU k _) (iW k _) hs
def zir (a:ASt)(k:IntKind)(x y:Lin):Out:=
 if nonneg a.F x then OZ a k [au (.k 0) ⟨a.nx,0⟩,au ⟨a.nx,0⟩ x,au ⟨a.nx,0⟩ (y.up (-1))]
 else OZ a k (au ⟨a.nx,0⟩ (y.up (-1))::(match high a.F y with|some h=>bnd ⟨a.nx,0⟩ (some (1-h)) none|none=>[]))
theorem zba (hr:R T ρ a σ)(hx:x.s<a.nx)(hy:y.s<a.nx)(h1:1<=y.v ρ)(hs:∀Γ,stepI Γ σ i=some (.v (.int k ((x.v ρ).tmod (y.v ρ))),σ.bx,fp0)):OpOk T ρ a σ i [zir a k x y]:=by
 have l:=dO ρ a.nx ((x.v ρ).tmod (y.v ρ));have n:(x.v ρ).tmod (y.v ρ)<y.v ρ:=Int.tmod_lt_of_pos _ (by omega);have f:(au ⟨a.nx,0⟩ (y.up (-1))).ok (a.nx+1) (upd ρ a.nx ((x.v ρ).tmod (y.v ρ))):=aF.2 ⟨qaf _,qaF hy,by rw [bU,Lin.jI,l.lin hy];omega⟩;unfold zir;split
 ·rename_i m;have j:=aO hr.F m;rw [Lin.k_v hr.zero] at j;have q:0<=(x.v ρ).tmod (y.v ρ):=Int.tmod_nonneg _ j;have u:(x.v ρ).tmod (y.v ρ)<=x.v ρ:=by
   rw [Int.tmod_eq_emod_of_nonneg j];by_cases f:x.v ρ<y.v ρ
   ·grind[Int.emod_eq_of_lt]
   ·grind
  refine jd hr (aV.cons ?_ (aV.cons ?_ (aV.cons f .nil))) hs;·exact aF.2 ⟨Nat.succ_pos _,qaf _,by grind[bU,Lin.k_v,jw]⟩
  exact aF.2 ⟨qaf _,qaF hx,by rw [bU,l.lin hx]<;>grind⟩
 refine jd hr (aV.cons f ?_) hs;split;next h e=>have b:=gZ hr.zero hr.F e;have w:-(y.v ρ)<(x.v ρ).tmod (y.v ρ):=Int.lt_tmod_of_pos _ (by omega);exact qH (jw hr _) (Nat.succ_pos _) (qaf _) (by grind[bU]) (by grind)
 exact .nil
def zii (a:ASt)(k:IntKind)(x:Lin):Out:=
 if nonneg a.F x then OZ a k [au (.k 0) ⟨a.nx,0⟩,au ⟨a.nx,0⟩ x] else OZ a k []
theorem Jy {x:Int}(h:0<=x)(m:Nat):0<=x.fdiv (2^m)/\x.fdiv (2^m)<=x:=by have a:(0:Int)<2^m:=Int.pow_pos (by decide);rw [Int.fdiv_eq_ediv_of_nonneg _ (by omega)];exact ⟨Int.ediv_nonneg h (by omega),Int.ediv_le_self _ h⟩
theorem zaO {m:Nat}(hr:R T ρ a σ)(hx:x.s<a.nx)(hs:∀Γ,stepI Γ σ i=some (.v (.int k ((x.v ρ).fdiv (2^m))),σ.bx,fp0)):OpOk T ρ a σ i [zii a k x]:=by
 have j:=dO ρ a.nx ((x.v ρ).fdiv (2^m));unfold zii;split
 ·rename_i h;have f:=aO hr.F h;rw [Lin.k_v hr.zero] at f;obtain ⟨l,n⟩:=Jy f m;refine jd hr (aV.cons ?_ (aV.cons ?_ .nil)) hs;·exact aF.2 ⟨Nat.succ_pos _,qaf _,by grind[bU,Lin.k_v,jw]⟩
  exact aF.2 ⟨qaf _,qaF hx,by rw [bU,j.lin hx]<;>grind⟩
 exact jd hr .nil hs
def zhS (F:List Fact)(op:BinOp)(x y:Lin):List Fact×List Fact:=
 let ne:=if leL F x y then [au (x.up 1) y] else if leL F y x then [au (y.up 1) x] else []
 match op with
 |.eql=>([au x y,au y x],ne)
 |.neq=>(ne,[au x y,au y x])
 |.lss=>([au (x.up 1) y],[au y x])
 |.leq=>([au x y],[au (y.up 1) x])
 |.gtr=>([au (y.up 1) x],[au x y])
 |.geq=>([au y x],[au (x.up 1) y])
 |_=>([],[])
theorem dG (hx:x.s<n)(hy:y.s<n)(h:x.v ρ<=y.v ρ):aV n ρ [au x y]:=aV.cons (aF.2 ⟨hx,hy,h⟩) .nil
theorem zdD (hr:R T ρ a σ)(hx:x.s<a.nx)(hy:y.s<a.nx)(hop:Xb op=true)(hs:∀Γ b,binV op (.int k (x.v ρ)) (.int k (y.v ρ))=some b->stepI Γ σ i=some (.v b,σ.bx,fp0)):
  OpOk T ρ a σ i [(.b (zhS a.F op x y).1 (zhS a.F op x y).2,a,fp0)]:=by
 have f:x.v ρ≠y.v ρ->aV a.nx ρ (if leL a.F x y then [au (x.up 1) y] else if leL a.F y x then [au (y.up 1) x] else []):=fun f=>by
  split;next h=>have:=aO hr.F h;exact dG hx hy (by grind[Lin.jI])
  split;next h=>have:=aO hr.F h;exact dG hy hx (by grind[Lin.jI])
  exact .nil
 have j:x.v ρ=y.v ρ->aV a.nx ρ [au x y,au y x]:=fun e=>aV.cons (aF.2 ⟨hx,hy,by omega⟩) (dG hy hx (by omega));cases op<;>first
  |exact absurd hop (by decide)
  |skip
 ·refine .one hr (.b (fun h=>j (eq_of_beq h)) (fun h=>f (by grind))) (fun Γ=>hs Γ _ (zdZ ..))
 ·refine .one hr (.b (fun h=>f (by grind)) (fun h=>j (by grind))) (fun Γ=>hs Γ _ (zdT ..))
 ·refine .one hr (.b (fun h=>dG hx hy ?_) (fun h=>dG hy hx ?_)) (fun Γ=>hs Γ _ (zdV ..));·have:=of_decide_eq_true h;grind[Lin.jI]
  grind
 ·refine .one hr (.b (fun h=>dG hx hy ?_) (fun h=>dG hy hx ?_)) (fun Γ=>hs Γ _ (zdW ..))
  ·grind
  grind[Lin.jI]
 ·refine .one hr (.b (fun h=>dG hy hx ?_) (fun h=>dG hx hy ?_)) (fun Γ=>hs Γ _ (zdX ..));·have:=of_decide_eq_true h;grind[Lin.jI]
  grind
 refine .one hr (.b (fun h=>dG hy hx ?_) (fun h=>dG hx hy ?_)) (fun Γ=>hs Γ _ (zdY ..))
 ·grind
 grind[Lin.jI]
end
section
variable {a:ASt}{y z:AX}{op:BinOp}{i:I}{x:Lin}{fs:List Fact}{l m outs:List Out}{σ:St}
variable {T:Tab} {n:Nat} {ρ:Rho}
def contra (F:List Fact)(f:Fact):Bool:=leL F ⟨f.y,f.c+1⟩ ⟨f.x,0⟩
def newF (F fs:List Fact):List Fact:=fs.filter fun f=>!leL F ⟨f.x,0⟩ ⟨f.y,f.c⟩
def assume (a:ASt)(fs:List Fact):Option ASt:=if fs.any (contra a.F) then none else some {a with F:=newF a.F fs++a.F}
theorem iE (hr:R T ρ a σ)(hf:aV a.nx ρ fs):∃a',assume a fs=some a'/\R T ρ a' σ/\a'.nx=a.nx:=by
 have h:fs.any (contra a.F)=false:=by
  cases n:fs.any (contra a.F) with
  |false=>rfl
  |true=>obtain ⟨f,l,m⟩:=List.any_eq_true.1 n;have j:=aO hr.F m;have u:=(hf f l).2.2;unfold Lin.v at j;dsimp only at j;omega
 unfold assume;rw [if_neg (by rw [h];decide)];exact ⟨_,rfl,hr.zoA (fun f q=>hf f (List.mem_filter.1 q).1),rfl⟩
def outOf (o:Option ASt)(y:AX):List Out:=match o with
 |some a=>[(y,a,fp0)]
 |none=>[]
theorem OpOk.left (h:OpOk T ρ a σ i l):OpOk T ρ a σ i (l++m):=by obtain ⟨o,f,r⟩:=h;exact ⟨o,List.mem_append_left _ f,r⟩
theorem OpOk.right (h:OpOk T ρ a σ i m):OpOk T ρ a σ i (l++m):=by obtain ⟨o,f,r⟩:=h;exact ⟨o,List.mem_append_right _ f,r⟩
theorem nC {x:X}(hr:R T ρ a σ)(hf:aV a.nx ρ fs)(hg:G T a.nx ρ y x)(hs:∀Γ,stepI Γ σ i=some (x,σ.bx,fp0)):OpOk T ρ a σ i (outOf (assume a fs) y):=by obtain ⟨h,j,l,m⟩:=iE hr hf;rw [j];have f:More a.nx ρ h.nx ρ:=⟨by omega,fun _ _=>rfl⟩;exact ⟨_,qaa.2 rfl,ρ,x,σ.bx,f,l,hg.more f,hs⟩
def zfL (a:ASt):AX->AX->AX->Option (List Out)
 |.b tf ff,x,y=>some (outOf (assume a tf) x++outOf (assume a ff) y)
 |_,_,_=>none
def PN:AX->Option Lin
 |.s l=>some l
 |.x (.v (.string bs))=>some (.k bs.size)
 |_=>none
theorem kQ (h0:ρ 0=0)(hn:0<n){x:X}{l:Lin}(hg:G T n ρ y x)(h:PN y=some l):∃bs:qaX,x=.v (.string bs)/\(bs.size:Int)=l.v ρ/\l.s<n:=by
 unfold PN at h;split at h
 ·cases h;cases hg with
  |s h1 h2=>exact ⟨_,rfl,h2,h1⟩
 ·cases h;cases hg;exact ⟨_,rfl,(Lin.k_v h0 _).symm,hn⟩
 cases h
def zj5 (a:ASt)(x y:Lin):Option Out:=
 match OT x y with
 |some l=>if leL a.F l (.k 9223372036854775807) then some (.s l,a,fp0) else none
 |none=>match high a.F x,high a.F y with
  |some hx,some hy=>if leI (hx+hy) 9223372036854775807&&nonneg a.F x&&nonneg a.F y then
    some (ziC a ⟨a.nx,0⟩ [au x ⟨a.nx,0⟩,au y ⟨a.nx,0⟩,au ⟨a.nx,0⟩ (x.up hy),au ⟨a.nx,0⟩ (y.up hx)]) else none
  |_,_=>none
theorem YG (x y:qaX):(x++y).size=x.size+y.size:=ByteArray.size_append
theorem zdK {y:Lin}{o:Out}{bx bz:qaX}(hr:R T ρ a σ)(hx:x.s<a.nx)(hy:y.s<a.nx)(h1:(bx.size:Int)=x.v ρ)(h2:(bz.size:Int)=y.v ρ)
  (hs:((bx.size+bz.size:Nat):Int)<=9223372036854775807->∀Γ,stepI Γ σ i=some (.v (.string (bx++bz)),σ.bx,fp0)) (h:zj5 a x y=some o):OpOk T ρ a σ i [o]:=by
 have hz:=YG bx bz;unfold zj5 at h;split at h
 ·rename_i l e;split at h;next m=>cases h;have c:=aO hr.F m;rw [Lin.k_v hr.zero] at c;have n:=kV hr.zero e;exact .one hr (.s (yT e hx hy) (by rw [hz];omega)) (hs (by omega))
  cases h
 split at h
 ·rename_i u w q n;split at h
  ·rename_i m;cases h;simp only [qab,gX] at m;obtain ⟨⟨E,H⟩,J⟩:=m;have A:=gZ hr.zero hr.F q;have B:=gZ hr.zero hr.F n;have f:=dO ρ a.nx ((bx++bz).size:Int);have j:=hr.more f;refine ⟨_,qaa.2 rfl,upd ρ a.nx ((bx++bz).size:Int),_,σ.bx,f,⟨j.zero,j.pos,aV.append ?_ j.F,j.tm,j.bx⟩,.s (qaf _) bU.symm,hs (by omega)⟩;refine aV.cons ?_ (aV.cons ?_ (aV.cons ?_ (aV.cons ?_ .nil)));·exact aF.2 ⟨qaF hx,qaf _,by rw [bU,f.lin hx,hz];omega⟩
   ·exact aF.2 ⟨qaF hy,qaf _,by rw [bU,f.lin hy,hz];omega⟩
   ·exact aF.2 ⟨qaf _,qaF hx,by rw [Lin.jI,bU,f.lin hx,hz];omega⟩
   exact aF.2 ⟨qaf _,qaF hy,by rw [Lin.jI,bU,f.lin hy,hz];omega⟩
  cases h
 cases h
def isAdd:BinOp->Bool
 |.add=>true
 |_=>false
def zj9 (a:ASt)(op:BinOp)(k k':IntKind)(x y:Lin):Option (List Out):=
 match op with
 |.shl=>if nonneg a.F y then some [anyI a k] else none
 |.shr=>if nonneg a.F y then some [zii a k x] else none
 |op=>if k=k' then
   match op with
   |.add=>some [zke a k x y]
   |.sub=>some [zho a k x y]
   |.mul=>some [ziD a k x y]
   |.quo=>if leL a.F (.k 1) y then some [ziv a k x] else none
   |.rem=>if leL a.F (.k 1) y then some [zir a k x y] else none
   |op=>if ZC op then some [anyI a k] else if Xb op then some [(.b (zhS a.F op x y).1 (zhS a.F op x y).2,a,fp0)] else none
  else none
def TI (op:BinOp)(l m:Lin):AX->AX
 |.x (.v (.string ⟨⟨[]⟩⟩))=>match op with
  |.eql=>.b [au l (.k 0)] [au (.k 1) l]
  |.neq=>.b [au (.k 1) l] [au l (.k 0)]
  |_=>.b [] []
 |_=>(fun _=>.b [] []) m
def zj8 (a:ASt)(op:BinOp):AX->AX->Option (List Out)
 |.i k x,.i k' y=>zj9 a op k k' x y
 |.x (.v (.string p)),.x (.v (.string q))=>match binV op (.string p) (.string q) with
  |some (.bool b)=>some [(cb b,a,fp0)]
  |some (.string r)=>some [(.x (.v (.string r)),a,fp0)]
  |_=>none
 |x,y=>match PN x,PN y with
  |some l,some m=>if Xb op then some [(TI op l m y,a,fp0)] else if isAdd op then (zj5 a l m).map fun o=>[o] else none
  |_,_=>none
theorem Hf {x y:Int}(h:0<=x)(hy:1<=y):0<=x.tdiv y/\x.tdiv y<=x:=by rw [Int.tdiv_eq_ediv_of_nonneg h];exact ⟨Int.ediv_nonneg h (by omega),Int.ediv_le_self _ h⟩
theorem fQ (hr:R T ρ a σ){l:Lin}(h:nonneg a.F l=true):0<=l.v ρ:=by have:=aO hr.F h;rw [Lin.k_v hr.zero] at this;exact this
theorem zd4 {k k':IntKind}{y:Lin}(hr:R T ρ a σ)(hx:x.s<a.nx)(hy:y.s<a.nx)(hs:∀Γ b,binV op (.int k (x.v ρ)) (.int k' (y.v ρ))=some b->stepI Γ σ i=some (.v b,σ.bx,fp0))(h:zj9 a op k k' x y=some outs):OpOk T ρ a σ i outs:=by
 unfold zj9 at h;split at h
 ·split at h;next f=>cases h;have:=fQ hr f;exact jq hr (iU k _) (iW k _) (fun Γ=>hs Γ _ (zdQ k k' _ _ (by omega)))
  cases h
 ·split at h;next f=>cases h;have:=fQ hr f;exact zaO hr hx (fun Γ=>hs Γ _ (zdP k k' _ _ (by omega)))
  cases h
 split at h
 ·rename_i n;subst n;split at h;·cases h;exact zef hr hx hy (fun Γ=>hs Γ _ (zd2 ..))
  ·cases h;exact PL hr hx hy (fun Γ=>hs Γ _ (zdN ..))
  ·cases h;exact zbr hr (fun Γ=>hs Γ _ (zdU ..))
  ·split at h;next f=>cases h;have c:=aO hr.F f;rw [Lin.k_v hr.zero] at c;exact zbc hr hx (fun l=>Hf l c) (fun Γ=>hs Γ _ (zdS _ _ _ (by omega)))
   cases h
  ·split at h;next f=>cases h;have c:=aO hr.F f;rw [Lin.k_v hr.zero] at c;exact zba hr hx hy c (fun Γ=>hs Γ _ (zdR _ _ _ (by omega)))
   cases h
  split at h;next m=>cases h;obtain ⟨z,hz⟩:=YN k (x.v ρ) (y.v ρ) m;exact jq hr (iU k z) (iW k z) (fun Γ=>hs Γ _ hz)
  split at h;next j=>cases h;exact zdD hr hx hy j hs
  cases h
 cases h
theorem zd0 (b:qaX)(op:BinOp)(t:Bool)(h:binV op (.string b) (.string ⟨⟨[]⟩⟩)=some (.bool t)):(op=.eql->t=decide (b.size=0))/\(op=.neq->t=!decide (b.size=0)):=by
 have f:(b.toList==(⟨⟨[]⟩⟩:qaX).toList)=decide (b.size=0):=by
  have e:b.toList=b.data.toList:=ByteArray.toList_eq b;have j:(⟨⟨[]⟩⟩:qaX).toList=[]:=ByteArray.toList_eq _;rw [e,j];obtain ⟨⟨l⟩⟩:=b;cases l with
  |nil=>rfl
  |cons c r=>rw [decide_eq_false (by simp [ByteArray.size])];rfl
 constructor
 ·rintro rfl
  have a:(Value.bool (b.toList==(⟨⟨[]⟩⟩:qaX).toList))=.bool t:=Option.some.inj h;rw [f] at a;exact (Value.bool.inj a).symm
 rintro rfl
 have a:(Value.bool (!(b.toList==(⟨⟨[]⟩⟩:qaX).toList)))=.bool t:=Option.some.inj h;rw [f] at a;exact (Value.bool.inj a).symm
theorem TG (hr:R T ρ a σ){l m:Lin}{b1 b2:qaX}(g2:G T a.nx ρ z (.v (.string b2)))(z1:(b1.size:Int)=l.v ρ)(l1:l.s<a.nx){t:Bool}(hb:binV op (.string b1) (.string b2)=some (.bool t)):G T a.nx ρ (TI op l m z) (.v (.bool t)):=by
 have f:G T a.nx ρ (.b [] []) (.v (.bool t)):=.b (fun _=>.nil) (fun _=>.nil);unfold TI;split
 ·cases g2 with
  |x _=>
   obtain ⟨q,u⟩:=zd0 b1 op t hb;have up:b1.size=0->aV a.nx ρ [au l (.k 0)]:=fun h=>aV.cons (aF.2 ⟨l1,hr.pos,by rw [Lin.k_v hr.zero,<-z1];omega⟩) .nil;have n:¬b1.size=0->aV a.nx ρ [au (.k 1) l]:=fun h=>aV.cons (aF.2 ⟨hr.pos,l1,by rw [Lin.k_v hr.zero,<-z1];omega⟩) .nil;split;·have:=q rfl;exact .b (fun j=>up (by rw [j] at this;exact of_decide_eq_true this.symm)) (fun j=>n (by rw [j] at this;exact of_decide_eq_false this.symm))
   ·have:=u rfl;exact .b (fun j=>n (by rw [j] at this;simpa using this.symm)) (fun j=>up (by rw [j] at this;simpa using this.symm))
   exact f
 exact f
theorem zd3 {ox oy:Opd}{p q:X}(hr:R T ρ a σ)(e1:σ.ev ox=some p)(e2:σ.ev oy=some q)(g1:G T a.nx ρ y p)(g2:G T a.nx ρ z q)(h:zj8 a op y z=some outs):OpOk T ρ a σ (.bin op ox oy) outs:=by
 have n:∀(u v w:Value),p=.v u->q=.v v->binV op u v=some w->∀Γ,stepI Γ σ (.bin op ox oy)=some (.v w,σ.bx,fp0):=fun u v w A B E Γ=>by subst A;subst B;simp only [stepI,e1,e2,E,qao];rfl
 unfold zj8 at h;split at h
 ·cases g1 with
  |i A B=>
   cases g2 with
   |i E h4=>subst B;subst h4;exact zd4 hr A E (fun Γ b f=>n _ _ b rfl rfl f Γ) h
 ·cases g1;cases g2;split at h;next b f=>cases h;exact .one hr (uP b) (n _ _ _ rfl rfl f)
  next r f=>cases h;exact .one hr (.x rfl) (n _ _ _ rfl rfl f)
  cases h
 split at h
 ·rename_i l m Q S;obtain ⟨H,rfl,M,L⟩:=kQ hr.zero hr.pos g1 Q;obtain ⟨J,rfl,U,P⟩:=kQ hr.zero hr.pos g2 S;split at h;next N=>cases h;obtain ⟨b,f⟩:=zdO H J N;exact .one hr (TG hr g2 M L f) (n _ _ _ rfl rfl f)
  split at h
  ·rename_i j;obtain ⟨o,O,rfl⟩:=qac.1 h;have:op=.add:=by cases op<;>first|rfl|cases j
   subst this;exact zdK hr L P M U (fun F=>n _ _ _ rfl rfl (zd1 H J F)) O
  cases h
 cases h
end
end Go.Ab
