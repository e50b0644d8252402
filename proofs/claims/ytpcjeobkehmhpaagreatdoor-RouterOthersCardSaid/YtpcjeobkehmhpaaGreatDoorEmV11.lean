/-.-/
import Derived.Test.YtpcjeobkehmhpaaGreatDoorEmV10
set_option linter.all false
namespace Go.Ab
open Go.Em
section
variable {a:ASt}{raw:Bool}{θl:List (Nat×Lin)}{bxs:List Bx}{xs:List X}{σ:St}
variable {T:Tab} {n m:Nat} {ρ ρ':Rho}
mutual
def AX.data (F:List Fact)(bx:List ABx)(raw:Bool):AX->Option AX
 |.bs i o l=>match bx[i]?,Xk o l with
  |some (.row sz k h rl),some e=>if leL F e rl then some (.sl (some false) sz k h l) else none
  |_,_=>none
 |.sl t sz k h l=>some (.sl (if raw then t else some false) sz k h l)
 |.agg cs=>(QG F bx raw cs).map .agg
 |.tup cs=>(QG F bx raw cs).map .tup
 |.x (.v v)=>some (.x (.v v))
 |.x .ifc=>some (.x .ifc)
 |.x (.sl t s es)=>some (.x (.sl (raw&&t) s es))
 |.x _=>none
 |.i k l=>some (.i k l)
 |.b t u=>some (.b t u)
 |.s l=>some (.s l)
 |.ptr i e o=>some (.ptr i e o)
 |.dp cs=>some (.dp cs)
 |.fn f cs=>some (.fn f cs)
 |.yl i=>some (.yl i)
 |.mp i=>some (.mp i)
 |.uf=>some .uf
 |.el k h=>some (.el k h)
 |.de k h=>some (.de k h)
def QG (F:List Fact)(bx:List ABx)(raw:Bool):List AX->Option (List AX)
 |[]=>some []
 |x::r=>match x.data F bx raw with
  |none=>none
  |some y=>(QG F bx raw r).map (y::·)
end
theorem zb7 {P:Nat->List X->Prop}{t:ET}{x:X}(h:Aw P t x):∃y,x.data bxs raw=some y/\Aw P t y:=by
 unfold Aw at h;split at h;·exact ⟨_,rfl,h⟩
 ·exact ⟨_,rfl,trivial⟩
 ·exact ⟨_,rfl,h⟩
 ·exact ⟨_,rfl,h⟩
 ·exact ⟨_,rfl,trivial⟩
 ·rcases h with rfl|rfl;·exact ⟨_,rfl,.inl rfl⟩
  exact ⟨_,rfl,.inr rfl⟩
 grind
theorem Ur {P:Nat->List X->Prop}{bxs:List Bx}{raw:Bool}:∀{ts:List ET} {xs:List X},ETs P ts xs->∃ys,eG bxs raw xs=some ys/\ETs P ts ys
 |[],[],_=>⟨[],rfl,trivial⟩
 |t::ts,x::xs,h=>by obtain ⟨y,h1,h2⟩:=zb7 (bxs:=bxs) (raw:=raw) h.1;obtain ⟨ys,h3,h4⟩:=Ur (bxs:=bxs) (raw:=raw) h.2;exact ⟨y::ys,by grind[eG],h2,h4⟩
theorem zpv {T:Tab}{h:Int}{k:Nat}(hd:D T h k xs):∃ys,eG bxs raw xs=some ys/\D T h k ys:=by
 obtain ⟨l,a,n,f⟩:=l9 hd;obtain ⟨ys,m,j⟩:=Ur (bxs:=bxs) (raw:=raw) f
 grind[dJ]
mutual
theorem G.data {F:List Fact}{bx:List ABx}{bxs:List Bx}{raw:Bool}(hF:aY n ρ F)(hb:GBs T n ρ bx bxs)(h0:ρ 0=0):∀{a y:AX} {x:X},G T n ρ a x->a.data F bx raw=some y->∃z,x.data bxs raw=some z/\G T n ρ y z
 |.bs i o l,y,.bs _ o' l',.bs q1 q2 q3 q4,h=>by
  unfold AX.data at h;split at h
  ·rename_i sz k hh rl e hbx ha;split at h
   ·rename_i hc;cases h;have c:=aU hF hc;rw [ql h0 ha] at c;obtain ⟨b,hb',hgb⟩:=hb.get hbx;cases hgb with
    |row w1 w2 w3 w4=>
     rename_i es;have hle:o'+l'<=es.length:=by omega
     refine ⟨.sl false sz ((es.drop o').take l'),by simp_all[X.data,rowOf],.sl w1 q2 rfl ?_ fun w hw=>w4 w (List.mem_of_mem_drop (List.mem_of_mem_take hw))⟩
     grind
   grind
  grind
 |.sl t sz k hh l,y,.sl tt _ es,.sl q1 q2 q3 q4 q5,h=>by
  simp [AX.data] at h;subst h;refine ⟨_,rfl,.sl q1 q2 ?_ q4 q5⟩;cases raw with
  |true=>grind
  |false=>exact rfl
 |.agg cs,y,.agg xs,.agg q,h=>by simp only [AX.data] at h;obtain ⟨ys,h1,rfl⟩:=qac.1 h;obtain ⟨zs,h2,h3⟩:=GL.data hF hb h0 q h1;exact ⟨_,by grind[X.data],.agg h3⟩
 |.tup cs,y,.tup xs,.tup q,h=>by simp only [AX.data] at h;obtain ⟨ys,h1,rfl⟩:=qac.1 h;obtain ⟨zs,h2,h3⟩:=GL.data hF hb h0 q h1;exact ⟨_,by grind[X.data],.tup h3⟩
 |.x (.v v),y,_,.x q,h=>by simp [AX.data] at h;subst h;exact ⟨_,rfl,.x q⟩
 |.x .ifc,y,_,.x q,h=>by simp [AX.data] at h;subst h;exact ⟨_,rfl,.x q⟩
 |.x (.sl t s es),y,_,.x q,h=>by simp [AX.data] at h;subst h;exact ⟨_,rfl,.x rfl⟩
 |.i k l,y,_,.i q1 q2,h=>by simp [AX.data] at h;subst h;exact ⟨_,rfl,.i q1 q2⟩
 |.b t u,y,_,.b q1 q2,h=>by simp [AX.data] at h;subst h;exact ⟨_,rfl,.b q1 q2⟩
 |.s l,y,_,.s q1 q2,h=>by simp [AX.data] at h;subst h;exact ⟨_,rfl,.s q1 q2⟩
 |.ptr i e o,y,_,.ptr q1 q2,h=>by simp [AX.data] at h;subst h;exact ⟨_,rfl,.ptr q1 q2⟩
 |.dp cs,y,_,.dp q,h=>by simp [AX.data] at h;subst h;exact ⟨_,rfl,.dp q⟩
 |.fn f cs,y,_,.fn q,h=>by simp [AX.data] at h;subst h;exact ⟨_,rfl,.fn q⟩
 |.yl i,y,_,.yl,h=>by simp [AX.data] at h;subst h;exact ⟨_,rfl,.yl⟩
 |.mp i,y,_,.mp,h=>by simp [AX.data] at h;subst h;exact ⟨_,rfl,.mp⟩
 |.uf,y,_,.ifc,h=>by simp [AX.data] at h;subst h;exact ⟨_,rfl,.ifc⟩
 |.uf,y,_,.Gt,h=>by simp [AX.data] at h;subst h;exact ⟨_,rfl,.Gt⟩
 |.el k h',y,_,.el (xs:=xs) q1 q2,h=>by simp [AX.data] at h;subst h;obtain ⟨ys,h1,h2⟩:=zpv (bxs:=bxs) (raw:=raw) q2;exact ⟨.agg ys,by grind[X.data],.el q1 h2⟩
 |.de k h',y,_,.de q1 q2,h=>by simp [AX.data] at h;subst h;exact ⟨_,rfl,.de q1 q2⟩
theorem GL.data {F:List Fact}{bx:List ABx}{bxs:List Bx}{raw:Bool}(hF:aY n ρ F)(hb:GBs T n ρ bx bxs)(h0:ρ 0=0):∀{a y:List AX} {x:List X},GL T n ρ a x->QG F bx raw a=some y->∃z,eG bxs raw x=some z/\GL T n ρ y z
 |[],y,_,.nil,h=>by simp only [QG,qaf] at h;subst h;exact ⟨[],rfl,.nil⟩
 |a::l,y,_,.cons g1 g2,h=>by
  unfold QG at h;split at h;·cases h
  rename_i y' h1;obtain ⟨ys,h2,rfl⟩:=qac.1 h;obtain ⟨z,h3,h4⟩:=G.data hF hb h0 g1 h1;obtain ⟨zs,h5,h6⟩:=GL.data hF hb h0 g2 h2;exact ⟨z::zs,by grind[eG],.cons h4 h6⟩
end
mutual
def AX.rows:AX->List Nat
 |.bs i _ _=>[i]
 |.agg cs=>IG cs
 |.tup cs=>IG cs
 |.i _ _|.b _ _|.s _|.x _|.sl _ _ _ _ _|.ptr _ _ _|.dp _|.fn _ _|.yl _|.mp _|.uf|.el _ _|.de _ _=>[]
def IG:List AX->List Nat
 |[]=>[]
 |x::r=>x.rows++IG r
end
mutual
theorem Lp:∀(x:X),x.refs=[]->x.rows=[]
 |.bs _ _ _,h=>by grind[X.refs]
 |.agg cs,h=>nV cs h
 |.tup cs,h=>nV cs h
 |.v _,_=>rfl
 |.sl _ _ _,_=>rfl
 |.ptr _ _ _,_=>rfl
 |.dp _,_=>rfl
 |.fn _ _,_=>rfl
 |.yl _,_=>rfl
 |.mp _,_=>rfl
 |.ifc,_=>rfl
theorem nV:∀(xs:List X),cO xs=[]->iW xs=[]
 |[],_=>rfl
 |x::r,h=>by have h:x.refs++cO r=[]:=h;obtain ⟨h1,h2⟩:=List.append_eq_nil_iff.1 h;show x.rows++iW r=[];rw [Lp x h1,nV r h2];rfl
end
mutual
theorem G.rows:∀{a:AX} {x:X},G T n ρ a x->x.rows=a.rows
 |_,_,.i _ _=>rfl
 |_,_,.b _ _=>rfl
 |_,_,.s _ _=>rfl
 |_,_,.x h=>Lp _ h
 |_,_,.sl _ _ _ _ _=>rfl
 |_,_,.bs _ _ _ _=>rfl
 |_,_,.ptr _ _=>rfl
 |_,_,.dp _=>rfl
 |_,_,.fn _=>rfl
 |_,_,.agg h=>h.rows
 |_,_,.tup h=>h.rows
 |_,_,.yl=>rfl
 |_,_,.mp=>rfl
 |_,_,.ifc=>rfl
 |_,_,.Gt=>rfl
 |_,_,.el _ h=>nV _ (qA h)
 |_,_,.de _ _=>rfl
theorem GL.rows:∀{a:List AX} {x:List X},GL T n ρ a x->iW x=IG a
 |_,_,.nil=>rfl
 |_,_,.cons h1 h2=>by show X.rows _++iW _=AX.rows _++IG _;rw [h1.rows,h2.rows]
end
mutual
def AX.plain:AX->Bool
 |.i _ _|.b _ _|.s _=>true
 |.x (.v _)=>true
 |.agg cs=>F8 cs
 |.tup cs=>F8 cs
 |.fn _ cs=>F8 cs
 |_=>false
def F8:List AX->Bool
 |[]=>true
 |x::r=>x.plain&&F8 r
end
mutual
theorem G.plain:∀{a:AX} {x:X},G T n ρ a x->a.plain=true->x.plain=true
 |_,_,.i _ _,_=>rfl
 |_,_,.b _ _,_=>rfl
 |_,_,.s _ _,_=>rfl
 |.x (.v _),_,.x _,_=>rfl
 |_,_,.fn h,e=>h.plain e
 |_,_,.agg h,e=>h.plain e
 |_,_,.tup h,e=>h.plain e
theorem GL.plain:∀{a:List AX} {x:List X},GL T n ρ a x->F8 a=true->zf x=true
 |_,_,.nil,_=>rfl
 |a::l,x::m,.cons h1 h2,e=>by have e:(a.plain&&F8 l)=true:=e;rw [qab] at e;show (x.plain&&zf m)=true;rw [h1.plain e.1,h2.plain e.2];rfl
end
structure zfP where
 m:Nat
 F:List Fact
 r:AX
 bx:List ABx
 deriving Inhabited
structure Ctr where
 f:FuncId
 m:Nat
 args:List AX
 inb:List ABx
 pre:List Fact
 mu:Option Lin
 outs:List zfP
 rank:Nat
 alts:List (List Fact)
 deriving Inhabited
variable {c:Ctr}
structure Ctr.Sat (T:Tab) (c:Ctr) (ρ:Rho) (args:List X) (inb:List Bx):Prop where
 zero:ρ 0=0
 pos:0<c.m
 pre:aY c.m ρ c.pre
 alts:∃p,p∈c.alts/\aY c.m ρ p
 args:GL T c.m ρ c.args args
 inb:GBs T c.m ρ c.inb inb
def Ctr.Res (T:Tab)(Γ:Nat->Gam)(c:Ctr)(ρ:Rho)(args:List X)(inb:List Bx):Prop:=
 ∃o,o∈c.outs/\∃ρ' r bx,More c.m ρ o.m ρ'/\aY o.m ρ' o.F/\G T o.m ρ' o.r r/\GBs T o.m ρ' o.bx bx/\∃B,∀N,B<=N->Γ N (.fn c.f) args inb=some (r,bx)
def Ctr.Holds (T:Tab)(Γ:Nat->Gam)(c:Ctr):Prop:=∀ρ args inb,c.Sat T ρ args inb->c.Res T Γ ρ args inb
def Ctr.Below (T:Tab)(Γ:Nat->Gam)(c:Ctr)(d:Int):Prop:=∀ρ args inb,c.Sat T ρ args inb->(∃l,c.mu=some l/\0<=l.v ρ/\16*l.v ρ+c.rank<d)->c.Res T Γ ρ args inb
def yM (l p:Lin)(acc:List (Nat×Lin)):List (Nat×Lin):=
 if Nat.beq p.s 0 then acc else if acc.any (fun q=>Nat.beq q.1 p.s) then acc else (p.s,l.up (-p.c))::acc
mutual
def zfy:AX->AX->List (Nat×Lin)->List (Nat×Lin)
 |.i _ l,.i _ p,acc=>yM l p acc
 |.s l,.s p,acc=>yM l p acc
 |.x (.v (.string bs)),.s p,acc=>yM (.k bs.size) p acc
 |.sl _ _ _ h l,.sl _ _ _ h' l',acc=>yM h h' (yM l l' acc)
 |.x (.sl _ _ []),.sl _ _ _ _ l',acc=>yM (.k 0) l' acc
 |.bs _ o l,.bs _ o' l',acc=>yM o o' (yM l l' acc)
 |.ptr _ e _,.ptr _ e' _,acc=>yM e e' acc
 |.dp cs,.dp ps,acc=>Eh cs ps acc
 |.fn _ cs,.fn _ ps,acc=>Eh cs ps acc
 |.agg cs,.agg ps,acc=>Eh cs ps acc
 |.tup cs,.tup ps,acc=>Eh cs ps acc
 |.el _ h,.el _ h',acc=>yM h h' acc
 |_,_,acc=>acc
def Eh:List AX->List AX->List (Nat×Lin)->List (Nat×Lin)
 |a::l,b::r,acc=>Eh l r (zfy a b acc)
 |_,_,acc=>acc
end
def zsG:ABx->ABx->List (Nat×Lin)->List (Nat×Lin)
 |.var cs,.var ps,acc=>Eh cs ps acc
 |.row _ _ h l,.row _ _ h' l',acc=>yM h h' (yM l l' acc)
 |.el _ h,.el _ h',acc=>yM h h' acc
 |_,_,acc=>acc
def NR:List ABx->List ABx->List (Nat×Lin)->List (Nat×Lin)
 |a::l,b::r,acc=>NR l r (zsG a b acc)
 |_,_,acc=>acc
def nC (acc:List (Nat×Lin)):Sub
 |0=>.k 0
 |s+1=>match acc.find? (fun q=>Nat.beq q.1 (s+1)) with
  |some q=>q.2
  |none=>.k 0
theorem zc0 {acc:List (Nat×Lin)}(hn:0<n)(h:acc.all (fun q=>blt q.2 n)=true)(s:Nat):(nC acc s).s<n:=by
 cases s with
 |zero=>exact hn
 |succ s=>
  show (match acc.find? (fun q:Nat×Lin=>Nat.beq q.1 (s+1)) with|some q=>q.2|none=>Lin.k 0).s<n;split;next q a=>exact zbN (qaq.1 h q (List.mem_of_find?_eq_some a))
  exact hn
def leM (c:In):List (Value×AX)->List (Value×AX)->Bool
 |[],[]=>true
 |(.int k z,a)::l,(.int k' z',b)::r=>decide (k=k')&&decide (z=z')&&leX c a b&&leM c l r
 |_,_=>false
def leB (c:In):ABx->ABx->Bool
 |.var cs,.var ps=>zd3 c cs ps
 |.row sz k h l,.row sz' k' h' l'=>Nat.beq sz sz'&&Nat.blt h'.s c.m&&lEq c l l'&&(leL c.F l (.k 0)||(c.S k k'&&lLe c h h'))
 |.dead,.dead=>true
 |.map es,.map ps=>leM c es ps
 |.el k h,.el k' h'=>c.S k k'&&lLe c h h'
 |_,_=>false
def zn5 (c:In):List ABx->List ABx->Bool
 |[],[]=>true
 |a::l,b::r=>leB c a b&&zn5 c l r
 |_,_=>false
theorem zgw {c:In}(hS:SOk T c.S)(h0:ρ 0=0)(hF:aY n ρ c.F):∀{a p:List (Value×AX)} {x:List (Value×X)},leM c a p=true->GM T n ρ a x->GM T c.m (back c.θ ρ) p x
 |[],[],_,_,.nil=>.nil
 |(.int k z,a)::l,(.int k' z',b)::r,_,h,.cons h1 h2=>by unfold leM at h;simp at h;obtain ⟨⟨⟨rfl,rfl⟩,e2⟩,e3⟩:=h;exact .cons (SL hS h0 hF e2 h1) (zgw hS h0 hF e3 h2)
theorem zgx {c:In}(hS:SOk T c.S)(h0:ρ 0=0)(hF:aY n ρ c.F){a p:ABx}{x:Bx}(h:leB c a p=true)(hg:GB T n ρ a x):GB T c.m (back c.θ ρ) p x:=by
 unfold leB at h;split at h;·cases hg with|var q=>exact .var (uJ hS h0 hF h q)
 ·simp only [qab,Bool.or_eq_true] at h;obtain ⟨⟨⟨f,u⟩,B⟩,j⟩:=h;have f:=qai f;subst f;obtain ⟨y,E⟩:=wF hF B;cases hg with
  |row q1 q2 q4 q5=>
   refine .row (eH u) y (by grind) fun e A=>?_;rcases j with j|⟨j,l⟩;·have:=aU hF j<;>grind[Lin.k_v]
   exact hS j (gu (SQ hF l).2 (q5 e A))
 ·cases hg;exact .dead
 ·cases hg with|map q=>exact .map (zgw hS h0 hF h q)
 ·rw [qab] at h;have f:=SQ hF h.2;cases hg with|el q1 q2=>exact .el f.1 (hS h.1 (gu f.2 q2))
 grind
theorem Pm {c:In}(hS:SOk T c.S)(h0:ρ 0=0)(hF:aY n ρ c.F):∀{a p:List ABx} {x:List Bx},zn5 c a p=true->GBs T n ρ a x->GBs T c.m (back c.θ ρ) p x
 |[],[],_,_,.nil=>.nil
 |a::l,b::r,_,h,.cons h1 h2=>by unfold zn5 at h;rw [qab] at h;exact .cons (zgx hS h0 hF h.1 h1) (Pm hS h0 hF h.2 h2)
def okF (a:ASt)(c:Ctr)(θl:List (Nat×Lin))(f:Fact):Bool:=Nat.blt f.x c.m&&Nat.blt f.y c.m&&leL a.F (nC θl f.x) ((nC θl f.y).up f.c)
def zmq (S:Nat->Nat->Bool)(a:ASt)(c:Ctr)(θl:List (Nat×Lin))(args:List AX)(inb:List ABx):Bool:=
 θl.all (fun q=>blt q.2 a.nx)&&Nat.blt 0 c.m&&zd3 ⟨S,a.F,nC θl,c.m⟩ args c.args&&zn5 ⟨S,a.F,nC θl,c.m⟩ inb c.inb&&
  c.pre.all (okF a c θl)&&c.alts.any (fun p=>p.all (okF a c θl))
theorem za6 {S:Nat->Nat->Bool}(hS:SOk T S)(hr:R T ρ a σ){args:List AX}{inb:List ABx}(hg:GL T a.nx ρ args xs)(hb:GBs T a.nx ρ inb bxs)(h:zmq S a c θl args inb=true):c.Sat T (back (nC θl) ρ) xs bxs:=by
 unfold zmq at h;simp only [qab] at h;obtain ⟨⟨⟨⟨⟨P,N⟩,H⟩,E⟩,y⟩,J⟩:=h;have j:∀l:List Fact,l.all (okF a c θl)=true->aY c.m (back (nC θl) ρ) l:=fun l M f u=>by have:=qaq.1 M f u;unfold okF at this;simp only [qab] at this;obtain ⟨⟨L,A⟩,B⟩:=this;have q:=aU hr.F B;rw [Lin.ny] at q;exact ⟨eH L,eH A,q⟩
 obtain ⟨p,O,n⟩:=List.any_eq_true.1 J;exact ⟨by unfold back nC;exact Lin.k_v hr.zero 0,eH N,j _ y,⟨p,O,j _ n⟩,uJ (c:=⟨S,a.F,nC θl,c.m⟩) hS hr.zero hr.F H hg,Pm (c:=⟨S,a.F,nC θl,c.m⟩) hS hr.zero hr.F E hb⟩
def zmd (nx m:Nat)(θ:Sub):Sub:=fun s=>if Nat.blt s m then θ s else ⟨nx+(s-m),0⟩
def iT (a:ASt)(c:Ctr)(θl:List (Nat×Lin))(o:zfP):AX×List ABx×ASt:=
 let θ:=zmd a.nx c.m (nC θl)
 (o.r.sub θ,o.bx.map (ABx.sub θ),{a with nx:=a.nx+(o.m-c.m),F:=o.F.map (Fact.sub θ)++a.F})
theorem zbO {s m:Nat}:Nat.blt s m=true↔s<m:=by simp_all
theorem NU (hr:R T ρ a σ){o:zfP}{ρo:Rho}{r:X}{bx:List Bx}(hθ:θl.all (fun q=>blt q.2 a.nx)=true)(hm:More c.m (back (nC θl) ρ) o.m ρo)(hF:aY o.m ρo o.F)(hg:G T o.m ρo o.r r)(hb:GBs T o.m ρo o.bx bx):
  ∃ρ',More a.nx ρ (iT a c θl o).2.2.nx ρ'/\R T ρ' (iT a c θl o).2.2 σ/\G T (iT a c θl o).2.2.nx ρ' (iT a c θl o).1 r/\GBs T (iT a c θl o).2.2.nx ρ' (iT a c θl o).2.1 bx:=by
 let ρ':Rho:=fun s=>if s<a.nx then ρ s else ρo (c.m+(s-a.nx))
 have y:=hm.le;have f:More a.nx ρ (a.nx+(o.m-c.m)) ρ':=⟨by omega,fun s u=>if_pos u⟩;have j:EX o.m ρo (a.nx+(o.m-c.m)) ρ' (zmd a.nx c.m (nC θl)):=fun s u=>by
  unfold zmd;by_cases n:s<c.m;·rw [if_pos (zbO.2 n)];have l:=zc0 hr.pos hθ s;exact ⟨by omega,by rw [f.lin l,hm.same s n];rfl⟩
  rw [if_neg (fun h=>n (zbO.1 h))];refine ⟨by grind,?_⟩;unfold Lin.v
  grind
 have l:=hr.more f;exact ⟨ρ',f,⟨l.zero,l.pos,(hF.sub j).append l.F,l.tm,l.bx⟩,hg.sub j,hb.sub j⟩
end
section
variable {a:ASt}{c:Ctr}{g:FuncId}{i:I}{θl:List (Nat×Lin)}{args:List AX}{outs:List Out}{Uw:List X}{σ:St}
variable {T:Tab} {n m:Nat} {ρ ρ':Rho} {Γ:Nat->Gam}
structure Cx where
 T:Tab
 K:Names
 C:List Ctr
 own:List Ctr
 mu:Option Lin
 rank:Nat
variable {x:Cx}
structure NY (Γ:Nat->Gam) (x:Cx) (n:Nat) (ρ:Rho):Prop where
 all:∀c,c∈x.C->c.Holds x.T Γ
 own:∀l,x.mu=some l->l.s<n/\∀c,c∈x.own->c.Below x.T Γ (16*l.v ρ+x.rank)
theorem NY.more {n':Nat}(h:NY Γ x n ρ)(hm:More n ρ n' ρ'):NY Γ x n' ρ':=
 ⟨h.all,fun l f=>by obtain ⟨a,j⟩:=h.own l f;exact ⟨hm.lt a,by rw [hm.lin a]<;>grind⟩⟩
def zn3 (x:Cx)(a:ASt)(c:Ctr)(θl:List (Nat×Lin)):Bool:=match x.mu,c.mu with
 |some l,some p=>Nat.blt p.s c.m&&leL a.F (.k 0) (p.sub (nC θl))&&(leL a.F ((p.sub (nC θl)).up 1) l&&Nat.blt c.rank 16||leL a.F (p.sub (nC θl)) l&&Nat.blt c.rank x.rank)
 |_,_=>false
def ze0 (x:Cx)(a:ASt)(g:FuncId)(args:List AX)(inb:List ABx):Option (Ctr×List (Nat×Lin)):=
 let cand:=fun c:Ctr=>(c,NR inb c.inb (Eh args c.args []))
 match (x.C.filter fun c=>Nat.beq c.f g).find? (fun c=>zmq (kle x.T) a c (cand c).2 args inb) with
 |some c=>some (cand c)
 |none=>match (x.own.filter fun c=>Nat.beq c.f g).find? (fun c=>zmq (kle x.T) a c (cand c).2 args inb&&zn3 x a c (cand c).2) with
  |some c=>some (cand c)
  |none=>none
theorem TK (hx:NY Γ x a.nx ρ)(hr:R x.T ρ a σ){inb:List ABx}{xs:List X}{bxs:List Bx}(hg:GL x.T a.nx ρ args xs)(hb:GBs x.T a.nx ρ inb bxs)(h:ze0 x a g args inb=some (c,θl)):
  c.f=g/\θl.all (fun q=>blt q.2 a.nx)=true/\c.Res x.T Γ (back (nC θl) ρ) xs bxs:=by
 have j:∀{θl:List (Nat×Lin)},zmq (kle x.T) a c θl args inb=true->θl.all (fun q=>blt q.2 a.nx)=true:=fun h=>by
  unfold zmq at h
  grind
 unfold ze0 at h;dsimp only at h;split at h;next M u=>cases h;have m:=List.find?_some u;have y:=List.mem_filter.1 (List.mem_of_find?_eq_some u);exact ⟨qai y.2,j m,hx.all c y.1 _ _ _ (za6 (sok x.T) hr hg hb m)⟩
 split at h
 ·rename_i M u;cases h;have m:=List.find?_some u;have y:=List.mem_filter.1 (List.mem_of_find?_eq_some u);rw [qab] at m;refine ⟨qai y.2,j m.1,?_⟩;have A:=m.2;unfold zn3 at A;split at A
  ·rename_i l p L O;simp only [qab,Bool.or_eq_true] at A;obtain ⟨⟨Q,J⟩,n⟩:=A;obtain ⟨P,N⟩:=hx.own l L;have H:=aU hr.F J;rw [Lin.k_v hr.zero,o9] at H;refine N c y.1 _ _ _ (za6 (sok x.T) hr hg hb m.1) ⟨p,O,H,?_⟩;rcases n with ⟨n,E⟩|⟨n,E⟩;·have B:=aU hr.F n;rw [Lin.ny,o9] at B;have:=eH E;omega
   have B:=aU hr.F n;rw [o9] at B;have:=eH E;omega
  grind
 grind
def zlY (T:Tab)(Γ:Nat->Gam)(ρ:Rho)(a:ASt)(σ:St)(i:I)(outs:List Out):Prop:=
 ∃o,o∈outs/\∃ρ' x bx,More a.nx ρ o.2.1.nx ρ'/\R T ρ' o.2.1 ⟨σ.tm,bx⟩/\G T o.2.1.nx ρ' o.1 x/\∃B,∀N,B<=N->aG (Γ N) σ i=some (x,bx,o.2.2)
theorem dU.e (h:dU T ρ a σ i outs):zlY T Γ ρ a σ i outs:=by obtain ⟨o,n,ρ',x,j,q,m,l,f⟩:=h;exact ⟨o,n,ρ',x,j,q,m,l,0,fun N _=>f _⟩
def zd1 (a:ASt)(c:Ctr)(θl:List (Nat×Lin))(o:zfP):Bool:=!(o.F.any fun f=>contra a.F (f.sub (zmd a.nx c.m (nC θl))))
theorem SI {o:zfP}(hr:R T ρ (iT a c θl o).2.2 σ):zd1 a c θl o=true:=by
 unfold zd1;rw [Bool.not_eq_true'];cases j:o.F.any fun f=>contra a.F (f.sub (zmd a.nx c.m (nC θl))) with
 |false=>rfl
 |true=>
  obtain ⟨f,l,u⟩:=List.any_eq_true.1 j;have h:aY (iT a c θl o).2.2.nx ρ (o.F.map (Fact.sub (zmd a.nx c.m (nC θl)))++a.F):=hr.F;have A:=aU (ρ:=ρ) (n:=(iT a c θl o).2.2.nx) (F:=a.F) (fun g q=>h g (List.mem_append_right _ q)) u;have y:=(h _ (List.mem_append_left _ (qal.2 ⟨f,l,rfl⟩))).2.2
  grind[Lin.v]
def zla (x:Cx)(a:ASt)(g:FuncId)(caps args as:List AX):Option (List Out):=
 match ze0 x a g (as++caps) [] with
 |some (c,θl)=>qj ((c.outs.filter (zd1 a c θl)).map fun o=>match (iT a c θl o).1.data (iT a c θl o).2.2.F (iT a c θl o).2.1 false with
  |some y=>if y.refs.isEmpty&&((IG args).isEmpty||y.plain) then some (y,(iT a c θl o).2.2,⟨false,IG args,[]⟩) else none
  |none=>none)
 |none=>none
theorem zfu (hx:NY Γ x a.nx ρ)(hr:R x.T ρ a σ){caps as:List AX}{zcn xas:List X}(hc:GL x.T a.nx ρ caps zcn)(ha:GL x.T a.nx ρ args Uw)(has:GL x.T a.nx ρ as xas)(h:zla x a g caps args as=some outs):
  ∃o,o∈outs/\∃ρ' y,More a.nx ρ o.2.1.nx ρ'/\R x.T ρ' o.2.1 σ/\G x.T o.2.1.nx ρ' o.1 y/\ou y=true/\((iW Uw).isEmpty||y.plain)=true/\o.2.2=⟨false,iW Uw,[]⟩/\∃B,∀N,B<=N->(Γ N).aC g (xas++zcn)=some y:=by
 unfold zla at h;split at h
 ·rename_i c θl H;obtain ⟨L,M,o,J,ρo,r,Y,Q,U,P,O,B,V⟩:=TK hx hr (has.append hc) .nil H;obtain ⟨ρ',A,l,u,E⟩:=NU hr M Q U P O;obtain ⟨out,f,n⟩:=iq h (List.mem_filter.2 ⟨J,SI l⟩);generalize iT a c θl o=q at A l u E f;obtain ⟨W,qb,Z⟩:=q;dsimp only at A l u E f;split at f
  ·rename_i y S;split at f
   ·rename_i m;cases f;rw [qab] at m;obtain ⟨z,hz,j⟩:=u.data l.F E l.zero S;refine ⟨_,n,ρ',z,A,l,j,by unfold ou;rw [j.refs]<;>grind,?_,by rw [ha.rows],B,fun N hN=>?_⟩
    ·have e:=m.2;rw [Bool.or_eq_true] at e;rw [ha.rows,Bool.or_eq_true];rcases e with e|e
     ·grind
     exact .inr (j.plain e)
    grind[Gam.aC]
   grind
  grind
 grind
def tV:List Nat->List ABx->List ABx->List ABx
 |i::r,b::s,bx=>tV r s (bx.set i b)
 |_,_,bx=>bx
theorem Bl:∀{s:List Nat} {l:List ABx} {m:List Bx} {bx:List ABx} {bxs:List Bx},GBs T n ρ l m->GBs T n ρ bx bxs->GBs T n ρ (tV s l bx) (kH s m bxs)
 |[],_,_,_,_,_,hb=>by grind[tV,kH]
 |_::_,_,_,_,_,.nil,hb=>by grind[tV,kH]
 |i::_,_,_,_,_,.cons h1 h2,hb=>by unfold tV kH;exact Bl h2 (hb.set i h1)
theorem FV:∀(s:List Nat) (l bx:List ABx),(tV s l bx).length=bx.length
 |[],_,_=>by grind[tV]
 |_::_,[],_=>by grind[tV]
 |i::r,b::s,bx=>by unfold tV;rw [FV,List.length_set]
def zft (x:Cx)(a:ASt)(g:FuncId)(args:List AX):Option (List Out):=
 let sel:=tY a.bx iO (qB args) []
 if Oj (qB args) sel then match LJ a.bx sel with
  |none=>none
  |some inb=>match ze0 x a g (zh5 (uV · sel) args) inb with
   |none=>none
   |some (c,θl)=>qj ((c.outs.filter (zd1 a c θl)).map fun o=>if sel.length<=(iT a c θl o).2.1.length then
     some (((iT a c θl o).1.ren (fun j=>if j<sel.length then sel.getD j 0 else a.bx.length+(j-sel.length))),
      {(iT a c θl o).2.2 with bx:=tV sel ((iT a c θl o).2.1.map (ABx.ren (fun j=>if j<sel.length then sel.getD j 0 else a.bx.length+(j-sel.length)))) a.bx++((iT a c θl o).2.1.map (ABx.ren (fun j=>if j<sel.length then sel.getD j 0 else a.bx.length+(j-sel.length)))).drop sel.length},
      Et [] sel a.bx.length (a.bx.length+((iT a c θl o).2.1.length-sel.length))) else none)
 else none
theorem Ug (hx:NY Γ x a.nx ρ)(hr:R x.T ρ a σ)(ha:GL x.T a.nx ρ args Uw)(h:zft x a g args=some outs):
  ∃o,o∈outs/\∃ρ' y bx sel,More a.nx ρ o.2.1.nx ρ'/\R x.T ρ' o.2.1 ⟨σ.tm,bx⟩/\G x.T o.2.1.nx ρ' o.1 y/\o.2.2=Et [] sel σ.bx.length bx.length/\∃B,∀N,B<=N->jc (Γ N) (.fn g) Uw σ.bx=some (y,bx,sel):=by
 unfold zft at h;dsimp only at h;split at h
 ·rename_i E;split at h;·cases h
  rename_i pa hp;obtain ⟨q,Y,J⟩:=BM hr.bx hp;split at h;·cases h
  rename_i c θl P;obtain ⟨Z,U,o,W,ρo,r,bx,h1,V,h3,h4,B,h5⟩:=TK hx hr (ha.ren _) J P;obtain ⟨ρ',A,n,L,H⟩:=NU hr U h1 V h3 h4;obtain ⟨out,f,m⟩:=iq h (List.mem_filter.2 ⟨W,SI n⟩);generalize iT a c θl o=w at A n L H f;obtain ⟨qr,S,qa⟩:=w;dsimp only at A n L H f;split at f
  ·rename_i O;cases f;have M:=hr.bx.len;have Q:=H.len;rw [M] at m
   let sel:=tY a.bx iO (qB args) []
   let u:=fun j=>if j<sel.length then sel.getD j 0 else σ.bx.length+(j-sel.length)
   have l:=H.ren u;refine ⟨_,m,ρ',r.ren u,kH sel (bx.map (Bx.ren u)) σ.bx++(bx.map (Bx.ren u)).drop sel.length,sel,A,⟨n.zero,n.pos,n.F,n.tm,(Bl l (hr.bx.more A)).append (l.drop _)⟩,L.ren _,?_,B,fun N hN=>?_⟩
   ·have e1:(kH sel (bx.map (Bx.ren u)) σ.bx++(bx.map (Bx.ren u)).drop sel.length).length=σ.bx.length+(S.length-sel.length):=by have:=((Bl (s:=sel) l (hr.bx.more A)).append (l.drop sel.length)).len;rw [<-this,qaw,FV,qaK,qaD,M]
    rw [e1]
   unfold jc;dsimp only;rw [ha.refs,nZ hr.bx,if_pos E,Y]
   grind
  grind
 grind
def opC (x:Cx)(a:ASt)(i:I):Option (List Out):=match i with
 |.call own ref raw f args=>match a.ev f,zkT a args with
  |some (.fn g caps),some ys=>if ref then zft x a g (ys++caps) else match QG a.F a.bx raw ys with
   |none=>none
   |some as=>if !own&&(qB (as++caps)).isEmpty then zla x a g caps ys as
    else if (IG ys).isEmpty then zft x a g (as++caps) else none
  |_,_=>none
 |i=>opA x.T x.K a i
theorem zgl (hx:NY Γ x a.nx ρ)(hr:R x.T ρ a σ)(h:opC x a i=some outs):zlY x.T Γ ρ a σ i outs:=by
 unfold opC at h;split at h
 ·rename_i own u pb f Q;split at h
  ·rename_i g U ys e1 e2;obtain ⟨xf,hf,gf⟩:=dA hr e1;obtain ⟨Y,pa,l⟩:=JD hr e2;cases gf with
   |fn gc=>
    rename_i O;split at h;next j=>obtain ⟨o,A,ρ',y,bx,M,q,H,E,V,B,S⟩:=Ug hx hr (l.append gc) h;refine ⟨o,A,ρ',y,bx,q,H,E,B,fun N P=>?_⟩<;>simp_all[aG,uP]
    rename_i j;have j:u=false:=by cases u with|true=>grind|false=>rfl
    subst j;split at h;·cases h
    rename_i as Z;obtain ⟨W,hz,J⟩:=l.data hr.F hr.bx hr.zero Z;have m:=(J.append gc).refs;split at h;next L=>rw [qab] at L;obtain ⟨o,A,ρ',y,q,H,E,V,S,k6,B,k7⟩:=zfu hx hr gc l J h;refine ⟨o,A,ρ',y,σ.bx,q,H,E,B,fun N P=>?_⟩<;>simp_all[aG,uP]
    rename_i L;split at h
    ·rename_i n;obtain ⟨o,A,ρ',y,bx,M,q,H,E,V,B,S⟩:=Ug hx hr (J.append gc) h;refine ⟨o,A,ρ',y,bx,q,H,E,B,fun N P=>?_⟩;have e3:¬(!own&&!false&&(cO (W++O)).isEmpty)=true:=by rw [m];simpa using L
     have e4:(false||(iW Y).isEmpty)=true:=by rw [l.rows,n];rfl
     simp_all[aG,uP]
    grind
  grind
 exact (znM hr h).e
end
section
variable {a:ASt}{i:I}{outs:List Out}{σ:St}
variable {T:Tab} {n m:Nat} {ρ ρ':Rho} {Γ:Nat->Gam}
def zpH (T:Tab)(k m:Nat):Bool:=(T k).all fun alt=>Nat.beq alt.length m
theorem zb4 {P:Nat->List X->Prop}:∀{ts:List ET} {xs:List X},ETs P ts xs->ts.length=xs.length
 |[],[],_=>rfl
 |_::_,_::_,h=>by rw [qaG,qaG,zb4 h.2]
theorem Ph {k m:Nat}{h:Int}{xs:List X}(hl:zpH T k m=true)(hd:D T h k xs):xs.length=m:=by obtain ⟨_,a,f,j⟩:=l9 hd;rw [<-zb4 j];exact qai (qaq.1 hl a f)
theorem GBs.zqA:∀{l:List ABx} {m:List Bx} {i:Nat} {a:ABx} {x:Bx},GBs T n ρ l m->m[i]?=some x->GB T n ρ a x->GBs T n ρ (l.set i a) m
 |_,_,i,_,_,.nil,e,_=>by grind
 |_,_,0,_,_,.cons _ h2,e,hx=>by simp at e;subst e;exact .cons hx h2
 |_,_,i+1,_,_,.cons h1 h2,e,hx=>.cons h1 (h2.zqA (by grind) hx)
def Yg (T:Tab)(a:ASt)(m:Option Nat)(i o k:Nat)(h:Lin):Option (List Out):=
 qj ((VU T a k h).map fun q=>(takeA m (q.1.drop o)).map fun y=>(y,{q.2 with bx:=q.2.bx.set i (.var q.1)},⟨false,[i],[]⟩))
def opL (T:Tab)(a:ASt):I->Option (List Out)
 |.yu none sz x j=>match a.ev x,a.ev j with
  |some (.sl _ s k h len),some (.i _ l)=>if Nat.blt 1 (T k).length&&nonneg a.F l&&Nat.beq s sz&&leL a.F (l.up 1) len then some [(.de k h,a,fp0)] else none
  |_,_=>none
 |.load m p=>match a.ev p with
  |some (.de k h)=>match m with
   |some m=>if zpH T k m then some [(.el k h,a,⟨false,[],[]⟩)] else none
   |none=>none
  |some (.ptr i e o)=>match a.bx[i]? with
   |some (.el k h)=>if zcf e then (match m with
    |some w=>if Nat.beq o 0&&zpH T k w then some [(.el k h,a,⟨false,[i],[]⟩)] else Yg T a m i o k h
    |none=>Yg T a m i o k h) else none
   |_=>none
  |_=>none
 |.store m p x=>match a.ev p,a.ev x with
  |some (.ptr i e 0),some (.el k h)=>match a.bx[i]? with
   |some (.var cs)=>if zcf e&&zpH T k m&&Nat.beq cs.length m then some [(Ro,{a with bx:=a.bx.set i (.el k h)},⟨true,[],[i]⟩)] else none
   |_=>none
  |_,_=>none
 |.box x=>match a.ev x with
  |some (.el k h)=>some [(.ptr a.bx.length (.k 0) 0,{a with bx:=a.bx++[.el k h]},⟨true,[],[a.bx.length]⟩)]
  |_=>none
 |_=>none
theorem KR {m:Option Nat}{i o k:Nat}{h:Lin}{p:Opd}(hr:R T ρ a σ)(hb:a.bx[i]?=some (.el k h))(hp:σ.ev p=some (.ptr i 0 o))(he:Yg T a m i o k h=some outs):dU T ρ a σ (.load m p) outs:=by
 obtain ⟨b,f,H⟩:=hr.bx.get hb;cases H with
 |el q1 q2=>
  rename_i L;obtain ⟨q,J,ρ',B,j,A⟩:=Am hr q1 q2;obtain ⟨r,n,u⟩:=iq he J;obtain ⟨y,N,rfl⟩:=qac.1 n;obtain ⟨x,M,l⟩:=zZ (A.drop o) N;refine ⟨_,u,ρ',x,σ.bx,B,⟨j.zero,j.pos,j.F,j.tm,j.bx.zqA f (.var A)⟩,l,fun Γ=>?_⟩;have E:ku σ (.ptr i 0 o)=some (L.drop o):=by simp only [ku,f];rfl
  have:oC σ m (.ptr i 0 o)=some x:=by unfold oC;rw [E];exact M
  simp only [aG,hp,this,qan];rfl
theorem znL (hr:R T ρ a σ)(h:opL T a i=some outs):dU T ρ a σ i outs:=by
 unfold opL at h;split at h
 ·rename_i sz x j;split at h
  ·rename_i t s k M len kd l y S;split at h
   ·rename_i n;cases h;simp only [qab] at n;obtain ⟨⟨⟨_,O⟩,Z⟩,Y⟩:=n;obtain ⟨N,u,q⟩:=dA hr y;obtain ⟨jv,hj,gj⟩:=dA hr S;have L:=jm hr O;have J:=Di gj L;have V:=Int.toNat_of_nonneg L;generalize (l.v ρ).toNat=w at J V;have c4:=aU hr.F Y;rw [Lin.ny] at c4;have c5:=qai Z;subst c5;cases q with
    |sl q1 q2 q3 q4 q5=>rename_i tt es;obtain ⟨v,hv,E⟩:=kV (l:=es) (i:=w) (by omega);exact .one hr (.de q1 (q5 v E)) (fun Γ=>by simp only [aG,u,hj,Option.bind_some,J,beq_self_eq_true,if_true,hv,qan];rfl)
   grind
  grind
 ·rename_i m p;split at h
  ·rename_i k M y;split at h
   ·rename_i w;split at h
    ·rename_i n;cases h;obtain ⟨N,u,q⟩:=dA hr y;cases q with
     |de q1 q2=>
      rename_i f;have B:=Ph n q2;refine .one hr (.el q1 q2) (fun Γ=>?_);have:oC σ (some w) (.dp f)=some (.agg f):=by unfold oC ku;dsimp only;rw [<-B,List.take_length,if_pos (beq_self_eq_true _)]
      simp only [aG,u,this,qan];rfl
    grind
   grind
  ·rename_i i e o y;split at h
   ·rename_i k M Q;split at h
    ·rename_i hz;obtain ⟨N,u,q⟩:=dA hr y;cases q with
     |ptr p1 p2=>
      rename_i P;have L:=rM hz hr.zero;have:P=0:=by omega
      subst this;split at h
      ·rename_i w;split at h
       ·rename_i n;cases h;rw [qab] at n;have ho:=qai n.1;subst ho;obtain ⟨b,A,H⟩:=hr.bx.get Q;cases H with
        |el q1 q2=>
         rename_i f;have B:=Ph n.2 q2;refine .one hr (.el q1 q2) (fun Γ=>?_);have W:ku σ (.ptr i 0 0)=some f:=by simp only [ku,A];rfl
         have:oC σ (some w) (.ptr i 0 0)=some (.agg f):=by unfold oC;rw [W];dsimp only;rw [<-B,List.take_length,if_pos (beq_self_eq_true _)]
         simp only [aG,u,this,qan];rfl
       grind[KR]
      grind[KR]
    grind
   grind
  grind
 ·rename_i m p x;split at h
  ·rename_i i e k M y S;split at h
   ·rename_i cs Q;split at h
    ·rename_i n;cases h;simp only [qab] at n;obtain ⟨⟨O,Z⟩,Y⟩:=n;obtain ⟨pv,hp,gp⟩:=dA hr y;obtain ⟨N,u,q⟩:=dA hr S;cases gp with
     |ptr p1 p2=>
      rename_i P;have L:=rM O hr.zero;have:P=0:=by omega
      subst this;cases q with
      |el q1 q2=>
       rename_i f;have B:=Ph Z q2;obtain ⟨b,A,H⟩:=hr.bx.get Q;cases H with
       |var H=>
        rename_i U;have pa:U.length=f.length:=by rw [<-H.len,qai Y,B]
        refine ⟨_,qaa.2 rfl,ρ,jg,σ.bx.set i (.var f),.refl ..,⟨hr.zero,hr.pos,hr.F,hr.tm,hr.bx.set i (.el q1 q2)⟩,.x rfl,fun Γ=>?_⟩;have hs:splice U 0 f=some f:=by unfold splice;rw [if_pos (by omega),List.take_zero,List.drop_of_length_le (by omega)];simp
        have:kK σ.bx m (.ptr i 0 0) (.agg f)=some (σ.bx.set i (.var f)):=by unfold kK;rw [if_pos (by simp_all[X.ok1,X.cells])];dsimp only;rw [A];dsimp only;rw [if_pos (show (0==0)=true from rfl)];show (splice U 0 f).map _=_;rw [hs];rfl
        simp only [aG,hp,u,this,qan];rfl
    grind
   grind
  grind
 ·rename_i x;split at h
  ·rename_i k M y;cases h;obtain ⟨N,u,q⟩:=dA hr y;cases q with
   |el q1 q2=>
    rename_i f;refine ⟨_,qaa.2 rfl,ρ,.ptr σ.bx.length 0 0,σ.bx++[.var f],.refl ..,⟨hr.zero,hr.pos,hr.F,hr.tm,hr.bx.snoc (.el q1 q2)⟩,?_,fun Γ=>?_⟩;·rw [hr.bx.len];exact .ptr hr.pos (Lin.k_v hr.zero 0).symm
    simp only [aG,u,X.ok1,if_true,X.cells];rw [hr.bx.len]
  grind
 grind
mutual
def zre:AX->List Lin
 |.sl _ _ _ h _=>[h]
 |.agg cs=>zrf cs
 |.tup cs=>zrf cs
 |_=>[]
def zrf:List AX->List Lin
 |[]=>[]
 |a::r=>zre a++zrf r
end
def maxes:ASt->List Lin->Lin->Option (Lin×ASt)
 |a,[],h=>some (h,a)
 |a,g::r,h=>if Nat.blt g.s a.nx&&Nat.blt h.s a.nx then (match maxS a h g with|(H,a')=>maxes a' r H) else none
theorem Ja:∀{l:List Lin} {a a':ASt} {σ:St} {h H:Lin} {ρ:Rho},R T ρ a σ->maxes a l h=some (H,a')->∃ρ',More a.nx ρ a'.nx ρ'/\R T ρ' a' σ
 |[],a,a',σ,h,H,ρ,hr,e=>by cases e;exact ⟨ρ,.refl ..,hr⟩
 |g::r,a,a',σ,h,H,ρ,hr,e=>by
  unfold maxes at e;split at e;next hc=>rw [qab] at hc;obtain ⟨ρ1,m1,r1,_⟩:=ZF hr (eH hc.2) (eH hc.1);generalize maxS a h g=q at m1 r1 e;obtain ⟨H1,a1⟩:=q;obtain ⟨ρ2,m2,r2⟩:=Ja r1 e;exact ⟨ρ2,m1.trans m2,r2⟩
  grind
def Y5 (a:ASt)(i:I):Option ASt:=match i with
 |.store _ p x=>match a.ev p,a.ev x with
  |some (.ptr b _ _),some y=>match a.bx[b]? with
   |some (.row sz k h l)=>match maxes a ((zre y).map (·.up 1)) h with
    |some (H,a')=>match a'.bx[b]? with
     |some (.row sz' k' h' l')=>if Nat.blt H.s a'.nx&&leL a'.F h' H then some {a' with bx:=a'.bx.set b (.row sz' k' H l')} else none
     |_=>none
    |none=>none
   |_=>none
  |_,_=>none
 |_=>none
theorem Y4 {a':ASt}(hr:R T ρ a σ)(h:Y5 a i=some a'):∃ρ',More a.nx ρ a'.nx ρ'/\R T ρ' a' σ:=by
 unfold Y5 at h;split at h
 ·split at h
  ·split at h
   ·split at h
    ·rename_i H J y;obtain ⟨ρ1,n,f⟩:=Ja hr y;split at h
     ·rename_i m L N O A;split at h
      ·rename_i j;cases h;rw [qab] at j;have q:=eH j.1;have B:=aU f.F j.2;obtain ⟨M,l,u⟩:=f.bx.get A;cases u with
       |row g1 g2 g3 g4=>exact ⟨ρ1,n,⟨f.zero,f.pos,f.F,f.tm,f.bx.zqA l (.row q g2 g3 fun e E=>gu B (g4 e E))⟩⟩
      grind
     grind
    grind
   grind
  grind
 grind
def opX (x:Cx)(a:ASt)(i:I):Option (List Out):=match opL x.T a i with
 |some l=>some l
 |none=>match opC x a i with
  |some l=>some l
  |none=>match Y5 a i with
   |some a'=>opC x a' i
   |none=>none
theorem znJ {x:Cx}(hx:NY Γ x a.nx ρ)(hr:R x.T ρ a σ)(h:opX x a i=some outs):zlY x.T Γ ρ a σ i outs:=by
 unfold opX at h;split at h;next l F=>cases h;exact (znL hr F).e
 split at h
 ·grind[zgl]
 split at h;next J H=>obtain ⟨ρ1,f,u⟩:=Y4 hr H;obtain ⟨o,q,ρ2,y,m,A,j,n,B,E⟩:=zgl (hx.more f) u h;exact ⟨o,q,ρ2,y,m,f.trans A,j,n,B,E⟩
 grind
end
section
variable {a:ASt}{x:Cx}{i:Ins}{σ:St}
variable {T:Tab} {n m:Nat} {ρ ρ':Rho} {Γ:Nat->Gam}
def setSlot:List (Nat×AX)->Nat->AX->List (Nat×AX)
 |[],_,_=>[]
 |(k,x)::r,s,y=>if k==s then (k,y)::r else (k,x)::setSlot r s y
theorem xC:∀{l:List (Nat×AX)} {m:List (Nat×X)} {s:Nat} {y:AX} {x:X},GT T n ρ l m->lk m s=some x->G T n ρ y x->GT T n ρ (setSlot l s y) m
 |_,_,_,_,_,.nil,_,_=>.nil
 |_,_,s,y,x,.cons (k:=k) g1 g2,h,hg=>by
  unfold lk at h;unfold setSlot;split at h;next hk=>cases h;rw [if_pos hk];exact .cons hg g2
  rename_i hk;rw [if_neg hk];exact .cons g1 (xC g2 h hg)
def zhK (d:Option Nat)(x:AX)(tm:List (Nat×AX)):List (Nat×AX):=match d with
 |none=>tm
 |some d=>(d,x)::tm
theorem RH {d:Option Nat}{y:AX}{x:X}{l:List (Nat×AX)}{m:List (Nat×X)}(h:GT T n ρ l m)(hg:G T n ρ y x):GT T n ρ (zhK d y l) (yY d x m):=by
 cases d with
 |none=>exact h
 |some d=>exact .cons hg h
abbrev zmu:=ASt×FP
variable {outs:List zmu}
def goE (x:Cx)(a:ASt)(i:Ins):Option (List zmu):=(opX x a i.op).map fun outs=>outs.map fun o=>({o.2.1 with tm:=zhK i.dst o.1 o.2.1.tm},o.2.2)
def zhE (a:ASt)(i:Ins):zmu:=({a with tm:=zhK i.dst Ro a.tm},fp0)
def zpl (T:Tab)(Γ:Nat->Gam)(ρ:Rho)(a:ASt)(σ:St)(i:Ins)(outs:List zmu):Prop:=
 ∃q,q∈outs/\∃ρ' σ',More a.nx ρ q.1.nx ρ'/\R T ρ' q.1 σ'/\∃B,∀N,B<=N->Em.step (Γ N) i σ=some (σ',q.2)
theorem zgC (hx:NY Γ x a.nx ρ)(hr:R x.T ρ a σ)(h:goE x a i=some outs):∃q,q∈outs/\∃ρ' σ',More a.nx ρ q.1.nx ρ'/\R x.T ρ' q.1 σ'/\∃B,∀N,B<=N->qI (Γ N) i σ=some (σ',q.2):=by obtain ⟨u,m,rfl⟩:=qac.1 h;obtain ⟨o,l,ρ',y,bx,n,f,j,B,A⟩:=znJ hx hr m;exact ⟨_,qal.2 ⟨o,l,rfl⟩,ρ',⟨yY i.dst y σ.tm,bx⟩,n,⟨f.zero,f.pos,f.F,RH f.tm j,f.bx⟩,B,fun N E=>by grind[qI]⟩
theorem RF (hr:R T ρ a σ):R T ρ (zhE a i).1 ⟨yY i.dst jg σ.tm,σ.bx⟩:=⟨hr.zero,hr.pos,hr.F,RH hr.tm (.x rfl),hr.bx⟩
def zhx (x:Cx)(a:ASt)(i:Ins):Option (List zmu):=match i.g with
 |none=>goE x a i
 |some (s,want)=>match lkA a.tm s with
  |some (.b tf ff)=>
   match (match assume a (if want then tf else ff) with
    |some a'=>goE x {a' with tm:=setSlot a'.tm s (cb want)} i
    |none=>some []) with
   |none=>none
   |some l=>some (l++match assume a (if want then ff else tf) with
    |some a'=>[zhE {a' with tm:=setSlot a'.tm s (cb (!want))} i]
    |none=>[])
  |some (.x (.v (.tuple _)))=>some [zhE a i]
  |_=>none
theorem zc7 (hx:NY Γ x a.nx ρ)(hr:R x.T ρ a σ)(h:zhx x a i=some outs):zpl x.T Γ ρ a σ i outs:=by
 unfold zhx at h;split at h;next P=>obtain ⟨q,Y,ρ',σ',H,Q,B,k3⟩:=zgC hx hr h;exact ⟨q,Y,ρ',σ',H,Q,B,fun N hN=>by grind[Em.step]⟩
 rename_i s f P;split at h
 ·rename_i W U M;obtain ⟨y,E,O⟩:=jB hr.tm M;cases O with
  |b Y h2=>
   rename_i t;split at h;·cases h
   rename_i l A;cases h;by_cases hw:t=f
   ·subst hw;have J:aY a.nx ρ (if t then W else U):=by
     cases t with
     |true=>grind
     |false=>grind
    obtain ⟨j,S,m,V⟩:=kF hr J;rw [S] at A;have n:R x.T ρ {j with tm:=setSlot j.tm s (cb t)} σ:=⟨m.zero,m.pos,m.F,xC m.tm E (zX t),m.bx⟩;have L:NY Γ x j.nx ρ:=by rw [V];exact hx
    obtain ⟨q,p1,ρ',σ',H,Q,B,k3⟩:=zgC (a:={j with tm:=setSlot j.tm s (cb t)}) L n A;refine ⟨q,List.mem_append_left _ p1,ρ',σ',⟨by have h9:j.nx<=q.1.nx:=H.le;omega,fun u hu=>H.same u (by show u<j.nx;omega)⟩,Q,B,fun N hN=>?_⟩<;>simp_all[Em.step]
   have J:aY a.nx ρ (if f then U else W):=by
    cases f with
    |true=>grind
    |false=>grind
   obtain ⟨j,S,m,V⟩:=kF hr J;have Z:t=!f:=by cases t<;>cases f<;>first|rfl|grind
   have n:R x.T ρ {j with tm:=setSlot j.tm s (cb (!f))} σ:=⟨m.zero,m.pos,m.F,xC m.tm E (Z▸zX t),m.bx⟩;refine ⟨_,List.mem_append_right _ (by rw [S];exact qaa.2 rfl),ρ,_,⟨by show a.nx<=j.nx;omega,fun _ _=>rfl⟩,RF n,0,fun N _=>?_⟩;unfold Em.step;rw [P];dsimp only;rw [E];dsimp only;rw [if_neg (by grind)];rfl
 next v M=>cases h;obtain ⟨y,E,O⟩:=jB hr.tm M;cases O;refine ⟨_,qaa.2 rfl,ρ,_,.refl ..,RF hr,0,fun N _=>?_⟩;unfold Em.step;rw [P];dsimp only;rw [E];rfl
 grind
abbrev ztt:=ASt×List FP
def KO (x:Cx):List Ins->ASt->Option (List ztt)
 |[],a=>some [(a,[])]
 |i::r,a=>match zhx x a i with
  |none=>none
  |some outs=>(qj (outs.map fun q=>(KO x r q.1).map fun l=>l.map fun w=>((w.1,q.2::w.2):ztt))).map List.flatten
theorem KN {x:Cx}:∀{l:List Ins} {ρ:Rho} {a:ASt} {σ:St} {outs:List ztt},NY Γ x a.nx ρ->R x.T ρ a σ->KO x l a=some outs->
  ∃q,q∈outs/\∃ρ' σ',More a.nx ρ q.1.nx ρ'/\R x.T ρ' q.1 σ'/\∃B,∀N,B<=N->steps (Γ N) l σ=some (σ',q.2)
 |[],ρ,a,σ,outs,hx,hr,h=>by simp [KO] at h;subst h;exact ⟨_,qaa.2 rfl,ρ,σ,.refl ..,hr,0,fun N _=>rfl⟩
 |i::r,ρ,a,σ,outs,hx,hr,h=>by
  unfold KO at h;split at h;·cases h
  rename_i os ho;obtain ⟨ls,hls,rfl⟩:=qac.1 h;obtain ⟨q,hq,ρ1,σ1,k1,k2,B1,k3⟩:=zc7 hx hr ho;obtain ⟨l,hl,hlm⟩:=iq hls hq;obtain ⟨l',hl',rfl⟩:=qac.1 hl;obtain ⟨w,hw,ρ2,σ2,p1,p2,B2,p3⟩:=KN (hx.more k1) k2 hl';refine ⟨_,List.mem_flatten.2 ⟨_,hlm,qal.2 ⟨w,hw,rfl⟩⟩,ρ2,σ2,k1.trans p1,p2,max B1 B2,fun N hN=>?_⟩
  grind[steps]
def keepA (live:List Nat)(tm:List (Nat×AX)):List (Nat×AX):=live.filterMap fun k=>(lkA tm k).map fun x=>(k,x)
theorem SX {l:List (Nat×AX)}{m:List (Nat×X)}(h:GT T n ρ l m):∀(live:List Nat),GT T n ρ (keepA live l) (keep live m)
 |[]=>.nil
 |k::r=>by
  have ih:=SX h r;unfold keepA keep at ih ⊢;cases hl:lkA l k with
  |none=>grind[sO]
  |some y=>obtain ⟨x,hx,hg⟩:=jB h hl;rw [List.filterMap_cons_some (b:=(k,y)) (by grind),List.filterMap_cons_some (b:=(k,x)) (by grind)];exact .cons hg ih
def Xu (l:Lin)(acc:Nat):Nat:=Nat.lor acc (Nat.shiftLeft 1 l.s)
def zsF:List Fact->Nat->Nat
 |[],acc=>acc
 |f::r,acc=>zsF r (Nat.lor (Nat.lor acc (Nat.shiftLeft 1 f.x)) (Nat.shiftLeft 1 f.y))
mutual
def zp9:AX->Nat->Nat
 |.i _ l,acc=>Xu l acc
 |.b t u,acc=>zsF t (zsF u acc)
 |.s l,acc=>Xu l acc
 |.sl _ _ _ h l,acc=>Xu h (Xu l acc)
 |.bs _ o l,acc=>Xu o (Xu l acc)
 |.ptr _ e _,acc=>Xu e acc
 |.dp cs,acc=>WS cs acc
 |.fn _ cs,acc=>WS cs acc
 |.agg cs,acc=>WS cs acc
 |.tup cs,acc=>WS cs acc
 |.el _ h,acc=>Xu h acc
 |.de _ h,acc=>Xu h acc
 |_,acc=>acc
def WS:List AX->Nat->Nat
 |[],acc=>acc
 |a::r,acc=>WS r (zp9 a acc)
end
def zld:List ABx->Nat->Nat
 |[],acc=>acc
 |.var cs::r,acc=>zld r (WS cs acc)
 |.row _ _ h l::r,acc=>zld r (Xu h (Xu l acc))
 |.loop _ _ tm _ _ _::r,acc=>zld r (tm.foldl (fun c q=>zp9 q.2 c) acc)
 |.map es::r,acc=>zld r (es.foldl (fun c q=>zp9 q.2 c) acc)
 |.dead::r,acc=>zld r acc
 |.el _ h::r,acc=>zld r (Xu h acc)
def through (u:Nat)(F:List Fact):List Fact:=F.flatMap fun f=>if u.testBit f.x&&!u.testBit f.y then
 F.filterMap fun g=>if Nat.beq f.y g.x&&u.testBit g.y&&!Nat.beq f.x g.y then some ⟨f.x,g.y,f.c+g.c⟩ else none else []
theorem UE {n u:Nat}{F:List Fact}(h:aY n ρ F):aY n ρ (through u F):=fun k a=>by
 obtain ⟨f,l,a⟩:=List.mem_flatMap.1 a;split at a
 ·obtain ⟨g,q,a⟩:=List.mem_filterMap.1 a;split at a;next j=>simp only [qab] at j;have e:=qai j.1.1;cases a;obtain ⟨m,A,H⟩:=h f l;obtain ⟨E,y,B⟩:=h g q;refine ⟨m,y,?_⟩<;>grind
  grind
 grind
def prune (base:Nat)(a:ASt):ASt:=
 let u:=zld a.bx (a.tm.foldl (fun c q=>zp9 q.2 c) base)
 {a with F:=(a.F.filter fun f=>u.testBit f.x&&u.testBit f.y)++through u a.F}
theorem zdz {base:Nat}(hr:R T ρ a σ):R T ρ (prune base a) σ:=⟨hr.zero,hr.pos,fun f h=>(qaO.1 h).elim (fun h=>hr.F f (List.mem_filter.1 h).1) (fun h=>UE hr.F f h),hr.tm,hr.bx⟩
end
section
variable {a:ABx}{x:Bx}
variable {T:Tab} {n m:Nat} {ρ ρ':Rho} {Γ:Nat->Gam}
def tight (F:List Fact):AX->Option (Option Nat)
 |.x (.sl true sz [])=>some (some sz)
 |.sl (some false) _ _ _ _=>some none
 |.sl (some true) sz _ _ l=>if leL F l (.k 0) then some (some sz) else if leL F (.k 1) l then some none else none
 |.sl none _ _ _ l=>if leL F (.k 1) l then some none else none
 |_=>some none
theorem Rx {F:List Fact}(h0:ρ 0=0)(hF:aY n ρ F){y:AX}{x:X}(hg:G T n ρ y x):(∀sz,tight F y=some (some sz)->x=.sl true sz [])/\(tight F y=some none->∀sz,x≠.sl true sz []):=by
 have a:∀{l:Lin} {es:qaX},(es.length:Int)=l.v ρ->leL F (.k 1) l=true->es≠[]:=fun {l es} m f e=>by have:=aU hF f<;>grind[Lin.k_v]
 unfold tight;split;·cases hg<;>grind
 ·cases hg<;>grind[Dx]
 ·rename_i sz k q l;cases hg with
  |sl q1 q2 q3 q4 q5=>
   have:=q3;unfold Dx at this;subst this;split;next j=>have c:=aU hF j;rw [Lin.k_v h0] at c;rename_i es;have:es=[]:=qaL (by omega)<;>grind
   grind
 ·cases hg<;>grind
 rename_i m f A u;refine ⟨fun sz h=>(by cases h),fun _ sz e=>?_⟩;subst e;cases hg with
 |x _=>grind
 |sl q1 q2 q3 q4 q5=>
  rename_i t k q l;cases t with
  |none=>grind
  |some b=>cases b with
   |false=>grind
   |true=>grind
def JE (sz:Nat):ABx:=.row sz 0 (.k 0) (.k 0)
theorem DJ (h0:ρ 0=0)(hn:0<n)(sz:Nat):GB T n ρ (JE sz) (.row sz []):=.row hn hn (by grind[Lin.k_v]) (fun e a=>by grind)
mutual
def AX.within (F:List Fact)(i:Nat)(rl:Lin):AX->Bool
 |.bs j o l=>if Nat.beq j i then (match Xk o l with|some e=>leL F e rl|none=>false) else true
 |.agg cs=>jC F i rl cs
 |.tup cs=>jC F i rl cs
 |.fn _ cs=>jC F i rl cs
 |_=>true
def jC (F:List Fact)(i:Nat)(rl:Lin):List AX->Bool
 |[]=>true
 |x::r=>x.within F i rl&&jC F i rl r
end
mutual
def AX.frz (i sz k:Nat)(h:Lin):AX->AX
 |.bs j o l=>if j==i then .sl (some false) sz k h l else .bs j o l
 |.agg cs=>.agg (Wp i sz k h cs)
 |.tup cs=>.tup (Wp i sz k h cs)
 |.fn g cs=>.fn g (Wp i sz k h cs)
 |.i k l=>.i k l
 |.b t u=>.b t u
 |.s l=>.s l
 |.x x=>.x x
 |.sl t sz k h l=>.sl t sz k h l
 |.ptr i e o=>.ptr i e o
 |.dp cs=>.dp cs
 |.yl i=>.yl i
 |.mp i=>.mp i
 |.uf=>.uf
 |.el k h=>.el k h
 |.de k h=>.de k h
def Wp (i sz k:Nat)(h:Lin):List AX->List AX
 |[]=>[]
 |x::r=>x.frz i sz k h::Wp i sz k h r
end
mutual
theorem AA (i c:Nat):∀(x:X),x.refs=[]->x.within i c=true
 |.bs _ _ _,h=>by grind[X.refs]
 |.agg cs,h=>je i c cs h
 |.tup cs,h=>je i c cs h
 |.fn _ cs,h=>je i c cs h
 |.v _,_=>rfl
 |.sl _ _ _,_=>rfl
 |.ptr _ _ _,_=>rfl
 |.dp _,_=>rfl
 |.yl _,_=>rfl
 |.mp _,_=>rfl
 |.ifc,_=>rfl
theorem je (i c:Nat):∀(xs:List X),cO xs=[]->iJ i c xs=true
 |[],_=>rfl
 |x::r,h=>by have h:x.refs++cO r=[]:=h;obtain ⟨h1,h2⟩:=List.append_eq_nil_iff.1 h;show (x.within i c&&iJ i c r)=true;rw [AA i c x h1,je i c r h2];rfl
end
mutual
theorem Ju (i sz:Nat)(es:qaX):∀(x:X),x.refs=[]->x.frz i sz es=x
 |.bs _ _ _,h=>by grind[X.refs]
 |.agg cs,h=>by show X.agg (TG i sz es cs)=_;rw [rP i sz es cs h]
 |.tup cs,h=>by show X.tup (TG i sz es cs)=_;rw [rP i sz es cs h]
 |.fn g cs,h=>by show X.fn g (TG i sz es cs)=_;rw [rP i sz es cs h]
 |.v _,_=>rfl
 |.sl _ _ _,_=>rfl
 |.ptr _ _ _,_=>rfl
 |.dp _,_=>rfl
 |.yl _,_=>rfl
 |.mp _,_=>rfl
 |.ifc,_=>rfl
theorem rP (i sz:Nat)(es:qaX):∀(xs:List X),cO xs=[]->TG i sz es xs=xs
 |[],_=>rfl
 |x::r,h=>by have h:x.refs++cO r=[]:=h;obtain ⟨h1,h2⟩:=List.append_eq_nil_iff.1 h;show x.frz i sz es::TG i sz es r=_;rw [Ju i sz es x h1,rP i sz es r h2]
end
section
variable {F:List Fact} {i sz k:Nat} {hh rl:Lin} {es:qaX}
mutual
theorem G.within (h0:ρ 0=0)(hF:aY n ρ F)(hl:(es.length:Int)=rl.v ρ):∀{a:AX} {x:X},G T n ρ a x->a.within F i rl=true->x.within i es.length=true
 |.bs j o l,.bs _ o' l',.bs q1 q2 q3 q4,h=>by
  unfold AX.within at h;unfold X.within;split at h
  ·rename_i hj;have hj:=qai hj;subst hj;split at h
   ·rename_i e he;have c:=aU hF h;rw [ql h0 he] at c
    grind
   grind
  simp_all
 |_,_,.agg q,h=>GL.within h0 hF hl q h
 |_,_,.tup q,h=>GL.within h0 hF hl q h
 |_,_,.fn q,h=>GL.within h0 hF hl q h
 |_,_,.x q,_=>AA _ _ _ q
 |_,_,.i _ _,_=>rfl
 |_,_,.b _ _,_=>rfl
 |_,_,.s _ _,_=>rfl
 |_,_,.sl _ _ _ _ _,_=>rfl
 |_,_,.ptr _ _,_=>rfl
 |_,_,.dp _,_=>rfl
 |_,_,.yl,_=>rfl
 |_,_,.mp,_=>rfl
 |_,_,.ifc,_=>rfl
 |_,_,.Gt,_=>rfl
 |_,_,.el _ h,_=>je _ _ _ (qA h)
 |_,_,.de _ _,_=>rfl
theorem GL.within (h0:ρ 0=0)(hF:aY n ρ F)(hl:(es.length:Int)=rl.v ρ):∀{a:List AX} {x:List X},GL T n ρ a x->jC F i rl a=true->iJ i es.length x=true
 |_,_,.nil,_=>rfl
 |a::l,x::m,.cons g1 g2,h=>by have h:(a.within F i rl&&jC F i rl l)=true:=h;rw [qab] at h;show (x.within i es.length&&iJ i es.length m)=true;rw [G.within h0 hF hl g1 h.1,GL.within h0 hF hl g2 h.2];rfl
end
mutual
theorem G.frz (h0:ρ 0=0)(hF:aY n ρ F)(hk:hh.s<n)(hl:(es.length:Int)=rl.v ρ)(hd:∀e,e∈es->D T (hh.v ρ) k e):∀{a:AX} {x:X},G T n ρ a x->a.within F i rl=true->G T n ρ (a.frz i sz k hh) (x.frz i sz es)
 |.bs j o l,.bs _ o' l',.bs q1 q2 q3 q4,h=>by
  have hw:=G.within (T:=T) (i:=i) h0 hF hl (G.bs q1 q2 q3 q4) h;unfold X.within at hw;unfold AX.frz X.frz;cases hj:(j==i) with
  |true=>
   rw [hj] at hw;simp at hw;simp;refine .sl hk q2 rfl ?_ fun e he=>hd e (List.mem_of_mem_drop (List.mem_of_mem_take he))
   grind
  |false=>simp;exact .bs q1 q2 q3 q4
 |_,_,.agg q,h=>.agg (GL.frz h0 hF hk hl hd q h)
 |_,_,.tup q,h=>.tup (GL.frz h0 hF hk hl hd q h)
 |_,_,.fn q,h=>.fn (GL.frz h0 hF hk hl hd q h)
 |.x y,_,.x q,_=>by show G T n ρ (.x y) (X.frz i sz es y);rw [Ju i sz es y q];exact .x q
 |_,_,.i q1 q2,_=>.i q1 q2
 |_,_,.b q1 q2,_=>.b q1 q2
 |_,_,.s q1 q2,_=>.s q1 q2
 |_,_,.sl q1 q2 q3 q4 q5,_=>.sl q1 q2 q3 q4 q5
 |_,_,.ptr q1 q2,_=>.ptr q1 q2
 |_,_,.dp q,_=>.dp q
 |_,_,.yl,_=>.yl
 |_,_,.mp,_=>.mp
 |_,_,.ifc,_=>.ifc
 |_,_,.Gt,_=>.Gt
 |_,_,.el (xs:=xs) q1 q2,_=>by show G T n ρ _ (X.frz i sz es (.agg xs));rw [Ju i sz es (.agg xs) (qA q2)];exact .el q1 q2
 |_,_,.de q1 q2,_=>.de q1 q2
theorem GL.frz (h0:ρ 0=0)(hF:aY n ρ F)(hk:hh.s<n)(hl:(es.length:Int)=rl.v ρ)(hd:∀e,e∈es->D T (hh.v ρ) k e):∀{a:List AX} {x:List X},GL T n ρ a x->jC F i rl a=true->GL T n ρ (Wp i sz k hh a) (TG i sz es x)
 |_,_,.nil,_=>.nil
 |a::l,x::m,.cons g1 g2,h=>by have h:(a.within F i rl&&jC F i rl l)=true:=h;rw [qab] at h;exact .cons (G.frz h0 hF hk hl hd g1 h.1) (GL.frz h0 hF hk hl hd g2 h.2)
end
def zkK (i sz k:Nat)(h:Lin)(tm:List (Nat×AX)):List (Nat×AX):=tm.map fun p=>(p.1,p.2.frz i sz k h)
theorem GT.frz (h0:ρ 0=0)(hF:aY n ρ F)(hk:hh.s<n)(hl:(es.length:Int)=rl.v ρ)(hd:∀e,e∈es->D T (hh.v ρ) k e):∀{a:List (Nat×AX)} {x:List (Nat×X)},GT T n ρ a x->jC F i rl (a.map (·.2))=true->GT T n ρ (zkK i sz k hh a) (zmp i sz es x)
 |_,_,.nil,_=>.nil
 |(q,a)::l,_,.cons g1 g2,h=>by have h:(a.within F i rl&&jC F i rl (l.map (·.2)))=true:=h;rw [qab] at h;exact .cons (G.frz h0 hF hk hl hd g1 h.1) (GT.frz h0 hF hk hl hd g2 h.2)
def ABx.within (F:List Fact)(i:Nat)(rl:Lin):ABx->Bool
 |.var cs=>jC F i rl cs
 |.loop _ _ tm _ _ _=>jC F i rl (tm.map (·.2))
 |_=>true
def ABx.frz (i sz k:Nat)(h:Lin):ABx->ABx
 |.var cs=>.var (Wp i sz k h cs)
 |.loop st p tm ps a b=>.loop st p (zkK i sz k h tm) ps a b
 |.row s k h l=>.row s k h l
 |.map es=>.map es
 |.dead=>.dead
 |.el k h=>.el k h
theorem GB.within (h0:ρ 0=0)(hF:aY n ρ F)(hl:(es.length:Int)=rl.v ρ)(g:GB T n ρ a x)(h:a.within F i rl=true):x.within i es.length=true:=by
 cases g with
 |var q=>exact q.within h0 hF hl h
 |loop q=>exact q.vals.within h0 hF hl h
 |row _ _ _ _=>rfl
 |map _=>rfl
 |dead=>rfl
 |el _ q=>exact je _ _ _ (qA q)
theorem GB.frz (h0:ρ 0=0)(hF:aY n ρ F)(hk:hh.s<n)(hl:(es.length:Int)=rl.v ρ)(hd:∀e,e∈es->D T (hh.v ρ) k e)(g:GB T n ρ a x)(h:a.within F i rl=true):GB T n ρ (a.frz i sz k hh) (x.frz i sz es):=by
 cases g with
 |var q=>exact .var (q.frz h0 hF hk hl hd h)
 |loop q=>exact .loop (q.frz h0 hF hk hl hd h)
 |row q1 q2 q3 q4=>exact .row q1 q2 q3 q4
 |map q=>exact .map q
 |dead=>exact .dead
 |el q1 q2=>rename_i f;show GB T n ρ _ (Bx.var (TG i sz es f));rw [rP i sz es f (qA q2)];exact .el q1 q2
theorem GBs.within (h0:ρ 0=0)(hF:aY n ρ F)(hl:(es.length:Int)=rl.v ρ):∀{a:List ABx} {x:List Bx},GBs T n ρ a x->a.all (ABx.within F i rl)=true->x.all (Bx.within i es.length)=true
 |_,_,.nil,_=>rfl
 |_,_,.cons g1 g2,h=>by rw [List.all_cons,qab] at h;rw [List.all_cons,g1.within h0 hF hl h.1,g2.within h0 hF hl h.2];rfl
theorem GBs.frz (h0:ρ 0=0)(hF:aY n ρ F)(hk:hh.s<n)(hl:(es.length:Int)=rl.v ρ)(hd:∀e,e∈es->D T (hh.v ρ) k e):∀{a:List ABx} {x:List Bx},GBs T n ρ a x->a.all (ABx.within F i rl)=true->GBs T n ρ (a.map (ABx.frz i sz k hh)) (x.map (Bx.frz i sz es))
 |_,_,.nil,_=>.nil
 |_,_,.cons g1 g2,h=>by rw [List.all_cons,qab] at h;exact .cons (g1.frz h0 hF hk hl hd h.1) (g2.frz h0 hF hk hl hd h.2)
end
def yF (i:Nat)(a:ASt):Option ASt:=match a.bx[i]? with
 |some (.row sz k h rl)=>if jC a.F i rl (a.tm.map (·.2))&&a.bx.all (ABx.within a.F i rl) then
   some {a with tm:=zkK i sz k h a.tm,bx:=(a.bx.map (ABx.frz i sz k h)).set i .dead} else none
 |_=>none
theorem yE {a a':ASt}{σ:St}{i:Nat}(hr:R T ρ a σ)(h:yF i a=some a'):∃σ',Em.freeze i σ=some σ'/\R T ρ a' σ'/\a'.nx=a.nx:=by
 unfold yF at h;split at h
 ·rename_i n k y u q;split at h
  ·rename_i f;cases h;rw [qab] at f;obtain ⟨b,l,j⟩:=hr.bx.get q;cases j with
   |row w1 w2 w3 w4=>rename_i m;refine ⟨⟨zmp i n m σ.tm,(σ.bx.map (Bx.frz i n m)).set i .dead⟩,?_,⟨hr.zero,hr.pos,hr.F,hr.tm.frz hr.zero hr.F w1 w3 w4 f.1,(hr.bx.frz hr.zero hr.F w1 w3 w4 f.2).set i .dead⟩,rfl⟩;unfold Em.freeze;rw [l];dsimp only;rw [if_pos];unfold RP;rw [hr.tm.vals.within hr.zero hr.F w3 f.1,hr.bx.within hr.zero hr.F w3 f.2];rfl
  grind
 grind
def pX:List Nat->ASt->Option ASt
 |[],a=>some a
 |i::r,a=>match a.bx[i]? with
  |some (.row _ _ _ _)=>(yF i a).bind (pX r)
  |some _=>pX r a
  |none=>none
theorem gZ:∀{l:List Nat} {a a':ASt} {σ:St},R T ρ a σ->pX l a=some a'->∃σ',Em.freezes l σ=some σ'/\R T ρ a' σ'/\a'.nx=a.nx
 |[],a,a',σ,hr,h=>by simp [pX] at h;subst h;exact ⟨σ,rfl,hr,rfl⟩
 |i::r,a,a',σ,hr,h=>by
  unfold pX at h;unfold Em.freezes;split at h
  ·rename_i hb;obtain ⟨b,hb',hgb⟩:=hr.bx.get hb;cases hgb with
   |row _ _ _ _=>
    rw [hb'];dsimp only;cases hf:yF i a with
    |none=>grind
    |some a1=>rw [hf] at h;obtain ⟨σ1,h1,h2,h3⟩:=yE hr hf;obtain ⟨σ2,h4,h5,h6⟩:=gZ (l:=r) h2 h<;>grind
  ·rename_i y hne hb;obtain ⟨b,hb',hgb⟩:=hr.bx.get hb;rw [hb'];cases hgb with
   |row _ _ _ _=>grind
   |var _=>exact gZ (l:=r) hr h
   |loop _=>exact gZ (l:=r) hr h
   |map _=>exact gZ (l:=r) hr h
   |dead=>exact gZ (l:=r) hr h
   |el _ _=>exact gZ (l:=r) hr h
  grind
end
section
variable {a a':ASt}{σ:St}{x:X}
variable {T:Tab} {n m:Nat} {ρ ρ':Rho} {Γ:Nat->Gam}
mutual
def AX.Nl (i:Nat):AX->Bool
 |.ptr j e _=>if j==i then zcf e else true
 |.agg cs=>rQ i cs
 |.tup cs=>rQ i cs
 |.fn _ cs=>rQ i cs
 |_=>true
def rQ (i:Nat):List AX->Bool
 |[]=>true
 |x::r=>x.Nl i&&rQ i r
end
mutual
def AX.fix (i:Nat)(vs:List AX):AX->AX
 |.ptr j e o=>if j==i then .dp (vs.drop o) else .ptr j e o
 |.agg cs=>.agg (Wq i vs cs)
 |.tup cs=>.tup (Wq i vs cs)
 |.fn g cs=>.fn g (Wq i vs cs)
 |.i k l=>.i k l
 |.b t u=>.b t u
 |.s l=>.s l
 |.x x=>.x x
 |.sl t sz k h l=>.sl t sz k h l
 |.bs i o l=>.bs i o l
 |.dp cs=>.dp cs
 |.yl i=>.yl i
 |.mp i=>.mp i
 |.uf=>.uf
 |.el k h=>.el k h
 |.de k h=>.de k h
def Wq (i:Nat)(vs:List AX):List AX->List AX
 |[]=>[]
 |x::r=>x.fix i vs::Wq i vs r
end
mutual
theorem JA (i:Nat)(vs:List X):∀(x:X),x.refs=[]->x.fix i vs=x
 |.ptr _ _ _,h=>by grind[X.refs]
 |.agg cs,h=>by show X.agg (TJ i vs cs)=_;rw [rU i vs cs h]
 |.tup cs,h=>by show X.tup (TJ i vs cs)=_;rw [rU i vs cs h]
 |.fn g cs,h=>by show X.fn g (TJ i vs cs)=_;rw [rU i vs cs h]
 |.v _,_=>rfl
 |.sl _ _ _,_=>rfl
 |.bs _ _ _,_=>rfl
 |.dp _,_=>rfl
 |.yl _,_=>rfl
 |.mp _,_=>rfl
 |.ifc,_=>rfl
theorem rU (i:Nat)(vs:List X):∀(xs:List X),cO xs=[]->TJ i vs xs=xs
 |[],_=>rfl
 |x::r,h=>by have h:x.refs++cO r=[]:=h;obtain ⟨h1,h2⟩:=List.append_eq_nil_iff.1 h;show x.fix i vs::TJ i vs r=_;rw [JA i vs x h1,rU i vs r h2]
end
section
variable {i:Nat} {vs:List AX} {xv:List X}
mutual
theorem G.fix (h0:ρ 0=0)(hv:GL T n ρ vs xv):∀{a:AX} {x:X},G T n ρ a x->a.Nl i=true->G T n ρ (a.fix i vs) (x.fix i xv)
 |.ptr j e o,.ptr _ e' _,.ptr q1 q2,h=>by
  unfold AX.Nl at h;unfold AX.fix X.fix;cases hj:(j==i) with
  |true=>
   rw [hj] at h;simp only [if_true] at h ⊢;have:=rM h h0;have:e'=0:=by omega
   subst this;simp;exact .dp (hv.drop o)
  |false=>simp;exact .ptr q1 q2
 |_,_,.agg q,h=>.agg (GL.fix h0 hv q h)
 |_,_,.tup q,h=>.tup (GL.fix h0 hv q h)
 |_,_,.fn q,h=>.fn (GL.fix h0 hv q h)
 |.x y,_,.x q,_=>by show G T n ρ (.x y) (X.fix i xv y);rw [JA i xv y q];exact .x q
 |_,_,.i q1 q2,_=>.i q1 q2
 |_,_,.b q1 q2,_=>.b q1 q2
 |_,_,.s q1 q2,_=>.s q1 q2
 |_,_,.sl q1 q2 q3 q4 q5,_=>.sl q1 q2 q3 q4 q5
 |_,_,.bs q1 q2 q3 q4,_=>.bs q1 q2 q3 q4
 |_,_,.dp q,_=>.dp q
 |_,_,.yl,_=>.yl
 |_,_,.mp,_=>.mp
 |_,_,.ifc,_=>.ifc
 |_,_,.Gt,_=>.Gt
 |_,_,.el (xs:=xs) q1 q2,_=>by show G T n ρ _ (X.fix i xv (.agg xs));rw [JA i xv (.agg xs) (qA q2)];exact .el q1 q2
 |_,_,.de q1 q2,_=>.de q1 q2
theorem GL.fix (h0:ρ 0=0)(hv:GL T n ρ vs xv):∀{a:List AX} {x:List X},GL T n ρ a x->rQ i a=true->GL T n ρ (Wq i vs a) (TJ i xv x)
 |_,_,.nil,_=>.nil
 |a::l,x::m,.cons g1 g2,h=>by have h:(a.Nl i&&rQ i l)=true:=h;rw [qab] at h;exact .cons (G.fix h0 hv g1 h.1) (GL.fix h0 hv g2 h.2)
end
def zkO (i:Nat)(vs:List AX)(tm:List (Nat×AX)):List (Nat×AX):=tm.map fun p=>(p.1,p.2.fix i vs)
theorem GT.fix (h0:ρ 0=0)(hv:GL T n ρ vs xv):∀{a:List (Nat×AX)} {x:List (Nat×X)},GT T n ρ a x->rQ i (a.map (·.2))=true->GT T n ρ (zkO i vs a) (zos i xv x)
 |_,_,.nil,_=>.nil
 |(q,a)::l,_,.cons g1 g2,h=>by have h:(a.Nl i&&rQ i (l.map (·.2)))=true:=h;rw [qab] at h;exact .cons (G.fix h0 hv g1 h.1) (GT.fix h0 hv g2 h.2)
def ABx.Nl (i:Nat):ABx->Bool
 |.var cs=>rQ i cs
 |.loop _ _ tm _ _ _=>rQ i (tm.map (·.2))
 |_=>true
def ABx.fix (i:Nat)(vs:List AX):ABx->ABx
 |.var cs=>.var (Wq i vs cs)
 |.loop st p tm ps a b=>.loop st p (zkO i vs tm) ps a b
 |.row s k h l=>.row s k h l
 |.map es=>.map es
 |.dead=>.dead
 |.el k h=>.el k h
theorem GBs.fix (h0:ρ 0=0)(hv:GL T n ρ vs xv):∀{a:List ABx} {x:List Bx},GBs T n ρ a x->a.all (ABx.Nl i)=true->GBs T n ρ (a.map (ABx.fix i vs)) (x.map (Bx.fix i xv))
 |_,_,.nil,_=>.nil
 |_,_,.cons g1 g2,h=>by
  rw [List.all_cons,qab] at h;refine .cons ?_ (GBs.fix h0 hv g2 h.2);cases g1 with
  |var q=>exact .var (GL.fix h0 hv q h.1)
  |loop q=>exact .loop (GT.fix h0 hv q h.1)
  |row q1 q2 q3 q4=>exact .row q1 q2 q3 q4
  |map q=>exact .map q
  |dead=>exact .dead
  |el q1 q2=>rename_i xs;show GB T n ρ _ (Bx.var (TJ i xv xs));rw [rU i xv xs (qA q2)];exact .el q1 q2
end
def Jw (i:Nat)(a:ASt):Option ASt:=match a.bx[i]? with
 |some (.var vs)=>if (qB vs).isEmpty then
   (if rQ i (a.tm.map (·.2))&&a.bx.all (ABx.Nl i) then some {a with tm:=zkO i vs a.tm,bx:=(a.bx.map (ABx.fix i vs)).set i .dead} else none)
   else some a
 |_=>none
theorem Qw {i:Nat}(hr:R T ρ a σ)(h:Jw i a=some a'):∃σ',yD i σ=some σ'/\R T ρ a' σ'/\a'.nx=a.nx:=by
 unfold Jw at h;split at h
 ·rename_i u q;obtain ⟨b,f,j⟩:=hr.bx.get q;cases j with
  |var hv=>
   rename_i n;split at h
   ·rename_i m;split at h
    ·rename_i l;cases h;rw [qab] at l;refine ⟨⟨zos i n σ.tm,(σ.bx.map (Bx.fix i n)).set i .dead⟩,?_,⟨hr.zero,hr.pos,hr.F,GT.fix hr.zero hv hr.tm l.1,(GBs.fix hr.zero hv hr.bx l.2).set i .dead⟩,rfl⟩;unfold yD;rw [f]
     (try dsimp only)
     rw [hv.refs,if_pos m]
    grind
   rename_i m;cases h;refine ⟨σ,?_,hr,rfl⟩;unfold yD;rw [f]
   (try dsimp only)
   rw [hv.refs,if_neg m]
 grind
def isRef:AX->Bool
 |.ptr _ _ _=>true
 |_=>false
def zq7:AX->Bool
 |.bs _ _ _=>true
 |_=>false
theorem O4 {a:AX}(hg:G T n ρ a x)(h:isRef a=false):∀i e o,x≠.ptr i e o:=fun i e o f=>by
 subst f;cases hg with
 |x q=>grind[X.refs]
 |ptr _ _=>cases h
theorem zgn {a:AX}(hg:G T n ρ a x)(h:zq7 a=false):∀i e o,x≠.bs i e o:=fun i e o f=>by
 subst f;cases hg with
 |x q=>grind[X.refs]
 |bs _ _ _ _=>cases h
def zaJ (a:ASt):Gh->Option ASt
 |.thaw s none=>match lkA a.tm s with
  |none=>some a
  |some y=>match tight a.F y with
   |some (some sz)=>some {a with tm:=(s,.bs a.bx.length (.k 0) (.k 0))::a.tm,bx:=a.bx++[JE sz]}
   |some none=>some a
   |none=>none
 |.thaw s (some o)=>match lkA a.tm s with
  |none=>some a
  |some (.ptr i e o')=>if zcf e then match a.bx[i]? with
   |some (.var cs)=>match cs[o'+o]? with
    |some y=>match tight a.F y with
     |some (some sz)=>some {a with bx:=(a.bx.set i (.var (cs.set (o'+o) (.bs a.bx.length (.k 0) (.k 0)))))++[JE sz]}
     |some none=>some a
     |none=>none
    |none=>some a
   |some (.el _ _)=>none
   |some _=>some a
   |none=>none
   else none
  |some y=>if isRef y then none else some a
 |.frz s none=>match lkA a.tm s with
  |some (.bs i _ _)=>yF i a
  |some y=>if zq7 y then none else some a
  |none=>none
 |.frz s (some o)=>match lkA a.tm s with
  |some (.ptr i e o')=>if zcf e then match a.bx[i]? with
   |some (.var cs)=>match cs[o'+o]? with
    |some (.bs j _ _)=>yF j a
    |some y=>if zq7 y then none else some a
    |none=>none
   |_=>none
   else none
  |_=>none
 |.zaZ s=>match lkA a.tm s with
  |some (.ptr i _ _)=>match a.bx[i]? with
   |some (.var cs)=>pX (IG cs) a
   |some _=>some a
   |none=>none
  |some y=>if isRef y then none else pX y.rows a
  |none=>some a
 |.EK s=>match lkA a.tm s with
  |some (.ptr i _ _)=>Jw i a
  |some y=>if isRef y then none else some a
  |none=>some a
theorem GL.set:∀{l:List AX} {m:List X} {y:AX} {x:X} (i:Nat),GL T n ρ l m->G T n ρ y x->GL T n ρ (l.set i y) (m.set i x)
 |_,_,_,_,_,.nil,_=>.nil
 |_,_,_,_,0,.cons _ h,g=>.cons g h
 |_,_,_,_,i+1,.cons h1 h,g=>.cons h1 (h.set i g)
theorem GL.get_none {l:List AX}{m:List X}{i:Nat}(h:GL T n ρ l m)(e:l[i]?=none):m[i]?=none:=by rw [List.getElem?_eq_none_iff] at e ⊢;rw [<-h.len]<;>grind
theorem zaI {g:Gh}(hr:R T ρ a σ)(h:zaJ a g=some a'):∃σ',ghost σ g=some σ'/\R T ρ a' σ'/\a'.nx=a.nx:=by
 have hl:=hr.bx.len;have N:G T a.nx ρ (.bs a.bx.length (.k 0) (.k 0)) (.bs σ.bx.length 0 0):=by rw [hl];exact .bs hr.pos hr.pos (by rw [Lin.k_v hr.zero];rfl) (by rw [Lin.k_v hr.zero];rfl)
 unfold zaJ at h;split at h
 ·rename_i s;unfold ghost
  (try dsimp only)
  split at h;next e=>cases h;rw [sO hr.tm e]<;>simp_all
  rename_i y e;obtain ⟨x,u,f⟩:=jB hr.tm e;obtain ⟨V,t2⟩:=Rx hr.zero hr.F f;rw [u];split at h;next O Q=>cases h;have:=V O Q;subst this;exact ⟨_,rfl,⟨hr.zero,hr.pos,hr.F,.cons N hr.tm,hr.bx.snoc (DJ hr.zero hr.pos O)⟩,rfl⟩
  ·grind
  grind
 ·rename_i s o;unfold ghost
  (try dsimp only)
  split at h;next e=>cases h;rw [sO hr.tm e]<;>simp_all
  ·rename_i i U S e;obtain ⟨x,u,f⟩:=jB hr.tm e;cases f with
   |ptr q1 q2=>
    rename_i P;split at h
    ·rename_i hz;have Z:=rM hz hr.zero;have:P=0:=by omega
     subst this;simp only [u];split at h
     ·rename_i W H;obtain ⟨b,n,m⟩:=hr.bx.get H;cases m with
      |var hv=>
       rename_i xv;simp only [n];split at h
       ·rename_i y M;obtain ⟨z,L,B⟩:=hv.get M;obtain ⟨V,t2⟩:=Rx hr.zero hr.F B;rw [L];split at h;next O Q=>cases h;have:=V O Q;subst this;exact ⟨_,rfl,⟨hr.zero,hr.pos,hr.F,hr.tm,(hr.bx.set i (.var (hv.set _ N))).snoc (DJ hr.zero hr.pos O)⟩,rfl⟩
        ·grind
        grind
       rename_i M;cases h;rw [hv.get_none M]<;>simp_all
     ·cases h
     next b A Y H=>cases h;obtain ⟨b',n,m⟩:=hr.bx.get H;rw [n];cases m<;>simp_all
     grind
    grind
  rename_i y A e;obtain ⟨x,u,f⟩:=jB hr.tm e;split at h;·cases h
  rename_i J;cases h;have E:=O4 f (by grind);rw [u];refine ⟨σ,?_,hr,rfl⟩;split
  ·grind
  rfl
 ·rename_i s;unfold ghost
  (try dsimp only)
  split at h;next i o l e=>obtain ⟨x,u,f⟩:=jB hr.tm e;cases f<;>grind[yE]
  ·rename_i y A e;obtain ⟨x,u,f⟩:=jB hr.tm e;split at h;·cases h
   rename_i J;cases h;have E:=zgn f (by grind);rw [u];refine ⟨σ,?_,hr,rfl⟩;split
   ·grind
   ·rfl
   grind
  grind
 ·rename_i s o;unfold ghost
  (try dsimp only)
  split at h
  ·rename_i i U S e;obtain ⟨x,u,f⟩:=jB hr.tm e;cases f with
   |ptr q1 q2=>
    rename_i P;split at h
    ·rename_i hz;have Z:=rM hz hr.zero;have:P=0:=by omega
     subst this;simp only [u];split at h
     ·rename_i W H;obtain ⟨b,n,m⟩:=hr.bx.get H;cases m with
      |var hv=>
       rename_i xv;simp only [n];split at h;next j o2 l2 M=>obtain ⟨z,L,B⟩:=hv.get M;cases B<;>grind[yE]
       ·rename_i y A M;obtain ⟨z,L,B⟩:=hv.get M;split at h;·cases h
        rename_i J;cases h;have E:=zgn B (by grind);rw [L];refine ⟨σ,?_,hr,rfl⟩;split
        ·grind
        ·rfl
        grind
       grind
     grind
    grind
  grind
 ·rename_i s;unfold ghost
  (try dsimp only)
  split at h
  ·rename_i i U S e;obtain ⟨x,u,f⟩:=jB hr.tm e;cases f with
   |ptr q1 q2=>
    rw [u]
    (try dsimp only)
    split at h
    ·rename_i W H;obtain ⟨b,n,m⟩:=hr.bx.get H;cases m with
     |var hv=>
      rw [n]
      (try dsimp only)
      rw [hv.rows]<;>grind[gZ]
    ·rename_i b A H;cases h;obtain ⟨b',n,m⟩:=hr.bx.get H;rw [n];cases m with
     |var _=>grind
     |row _ _ _ _=>grind
     |loop _=>grind
     |map _=>grind
     |dead=>grind
     |el _ q=>dsimp only;rw [nV _ (qA q)];exact ⟨σ,rfl,hr,rfl⟩
    grind
  ·rename_i y A e;obtain ⟨x,u,f⟩:=jB hr.tm e;split at h;·cases h
   rename_i J;have E:=O4 f (by grind);obtain ⟨σ',h1,h2,h3⟩:=gZ hr h;refine ⟨σ',?_,h2,h3⟩;rw [u];split
   ·grind
   next x' _ e2=>cases e2;rw [f.rows]<;>grind
   grind
  rename_i e;cases h;rw [sO hr.tm e]<;>simp_all
 rename_i s;unfold ghost
 (try dsimp only)
 split at h;next i U S e=>obtain ⟨x,u,f⟩:=jB hr.tm e;cases f<;>grind[Qw]
 ·rename_i y A e;obtain ⟨x,u,f⟩:=jB hr.tm e;split at h;·cases h
  rename_i J;cases h;have E:=O4 f (by grind);rw [u];refine ⟨σ,?_,hr,rfl⟩;split
  ·grind
  rfl
 rename_i e;cases h;rw [sO hr.tm e]<;>simp_all
def Dn:List Gh->ASt->Option ASt
 |[],a=>some a
 |g::r,a=>match zaJ a g with
  |none=>none
  |some a'=>Dn r a'
theorem GU:∀{l:List Gh} {a a':ASt} {σ:St},R T ρ a σ->Dn l a=some a'->∃σ',wQ l σ=some σ'/\R T ρ a' σ'/\a'.nx=a.nx
 |[],a,a',σ,hr,h=>by simp [Dn] at h;subst h;exact ⟨σ,rfl,hr,rfl⟩
 |g::r,a,a',σ,hr,h=>by
  unfold Dn at h;split at h;·cases h
  rename_i a1 h1;obtain ⟨σ1,k1,k2,k3⟩:=zaI hr h1;obtain ⟨σ2,k4,k5,k6⟩:=GU k2 h<;>grind[wQ]
end
section
variable {a:ASt}{x:Cx}{k nIn:Nat}{S:Nat->Nat->Bool}{σ:St}
variable {T:Tab} {n m:Nat} {ρ ρ':Rho} {Γ:Nat->Gam}
abbrev J9:=Ex×ASt
variable {outs:List J9}
def EY (T:Tab)(Γ:Nat->Gam)(nIn:Nat)(ρ:Rho)(a:ASt)(σ:St)(c:C)(outs:List J9):Prop:=
 ∃q,q∈outs/\∃ρ' σ',More a.nx ρ q.2.nx ρ'/\R T ρ' q.2 σ'/\∃B,∀N,B<=N->run (Γ N) nIn N c σ=some (q.1,σ')
def zqJ (x:Cx)(base:Nat)(gh:List Gh)(draw:List (Nat×Nat))(l:List Ins)(live:List Nat)(a:ASt):Option (List J9):=
 match Dn gh a with
 |none=>none
 |some a1=>match KO x l a1 with
  |none=>none
  |some outs=>qj (outs.map fun q=>if BR l q.2 draw then some (Ex.norm,prune base {q.1 with tm:=keepA live q.1.tm}) else none)
theorem zh7 {base:Nat}{gh:List Gh}{draw:List (Nat×Nat)}{l:List Ins}{live:List Nat}(hx:NY Γ x a.nx ρ)(hr:R x.T ρ a σ)(h:zqJ x base gh draw l live a=some outs):EY x.T Γ nIn ρ a σ (.reg gh draw l live) outs:=by
 unfold zqJ at h;split at h;·cases h
 rename_i J n;obtain ⟨σ1,Q,H,A⟩:=GU hr n;split at h;·cases h
 rename_i M u;obtain ⟨q,y,ρ',σ',m,f,B,O⟩:=KN (A▸hx) H u;obtain ⟨w,j,E⟩:=iq h y;split at j;next U=>cases j;refine ⟨_,E,ρ',⟨keep live σ'.tm,σ'.bx⟩,⟨by have S:=m.le;show a.nx<=q.1.nx;omega,fun s L=>m.same s (by omega)⟩,zdz ⟨f.zero,f.pos,f.F,SX f.tm live,f.bx⟩,B,fun N P=>?_⟩<;>simp_all[run]
 grind
def leT (c:In):List (Nat×AX)->List (Nat×AX)->Bool
 |[],[]=>true
 |(k,a)::l,(j,p)::r=>Nat.beq k j&&leX c a p&&leT c l r
 |_,_=>false
theorem zgv {c:In}(hS:SOk T c.S)(h0:ρ 0=0)(hF:aY n ρ c.F):∀{a p:List (Nat×AX)} {x:List (Nat×X)},leT c a p=true->GT T n ρ a x->GT T c.m (back c.θ ρ) p x
 |[],[],_,_,.nil=>.nil
 |(k,a)::l,(j,b)::r,_,h,.cons h1 h2=>by unfold leT at h;simp only [qab] at h;obtain ⟨⟨e1,e2⟩,e3⟩:=h;have e1:=qai e1;subst e1;exact .cons (SL hS h0 hF e2 h1) (zgv hS h0 hF e3 h2)
def zd4 (c:In):List ABx->List ABx->Bool
 |[],[]=>true
 |a::l,b::r=>leB c a b&&zd4 c l r
 |_,_=>false
theorem SN {c:In}(hS:SOk T c.S)(h0:ρ 0=0)(hF:aY n ρ c.F):∀{a p:List ABx} {x:List Bx},zd4 c a p=true->GBs T n ρ a x->GBs T c.m (back c.θ ρ) p x
 |[],[],_,_,.nil=>.nil
 |a::l,b::r,_,h,.cons h1 h2=>by unfold zd4 at h;rw [qab] at h;exact .cons (zgx hS h0 hF h.1 h1) (SN hS h0 hF h.2 h2)
def eY (k:Nat)(acc:List (Nat×Lin)):Sub:=fun s=>if Nat.blt s k then ⟨s,0⟩ else nC acc s
def zmg (S:Nat->Nat->Bool)(k:Nat)(acc:List (Nat×Lin))(a p:ASt):Bool:=
 let c:In:=⟨S,a.F,eY k acc,p.nx⟩
 Nat.ble k a.nx&&Nat.ble k p.nx&&Nat.blt 0 k&&leT c a.tm p.tm&&zd4 c a.bx p.bx&&
  p.F.all (fun f=>Nat.blt f.x p.nx&&Nat.blt f.y p.nx&&leL a.F (eY k acc f.x) ((eY k acc f.y).up f.c))
theorem Pj (hS:SOk T S){acc:List (Nat×Lin)}{p:ASt}(hr:R T ρ a σ)(h:zmg S k acc a p=true):R T (back (eY k acc) ρ) p σ/\More k ρ p.nx (back (eY k acc) ρ):=by
 unfold zmg at h;simp only [qab] at h;obtain ⟨⟨⟨⟨⟨M,L⟩,B⟩,A⟩,q⟩,E⟩:=h;have J:=eH B;have j:∀s,s<k->back (eY k acc) ρ s=ρ s:=fun s N=>by simp_all[back,eY,Lin.v]
 have l:=Nat.le_of_ble_eq_true L;refine ⟨⟨by rw [j 0 J];exact hr.zero,by omega,fun f n=>?_,zgv (c:=⟨S,a.F,eY k acc,p.nx⟩) hS hr.zero hr.F A hr.tm,SN (c:=⟨S,a.F,eY k acc,p.nx⟩) hS hr.zero hr.F q hr.bx⟩,⟨l,j⟩⟩;have:=qaq.1 E f n;simp only [qab] at this;obtain ⟨⟨H,u⟩,y⟩:=this;have m:=aU hr.F y;rw [Lin.ny] at m;exact ⟨eH H,eH u,m⟩
def zoW:List (Nat×AX)->List (Nat×AX)->List (Nat×Lin)->List (Nat×Lin)
 |(_,a)::l,(_,b)::r,acc=>zoW l r (zfy a b acc)
 |_,_,acc=>acc
def zA (a p:ASt):List (Nat×Lin):=NR a.bx p.bx (zoW a.tm p.tm [])
abbrev Mu:=Lin×Lin
variable {mu:Mu}
abbrev Orc:=C->ASt->Option (ASt×Mu)
def zgs (k:Nat):Nat:=Nat.shiftLeft 1 k-1
def lessM (F:List Fact)(θ:Sub)(mu:Mu):Bool:=leL F (mu.2.up 1) mu.1&&
 ((leL F (mu.1.sub θ) mu.1&&leL F (mu.2.up 1) (mu.2.sub θ))||(leL F ((mu.1.sub θ).up 1) mu.1&&leL F mu.2 (mu.2.sub θ)))
def ziL (S:Nat->Nat->Bool)(nIn:Nat)(f:ASt->Option (List J9))(a I:ASt)(mu:Mu):Option (List J9):=
 if zmg S a.nx (zA a I) a I&&Nat.blt mu.1.s I.nx&&Nat.blt mu.2.s I.nx then match f I with
  |none=>none
  |some outs=>
   if outs.all (fun q=>match q.1 with
    |.norm=>match Uf nIn q.2 with
     |some a'=>zmg S a.nx (zA a' I) a' I&&lessM a'.F (eY a.nx (zA a' I)) mu
     |none=>false
    |_=>true) then some (outs.filter fun q=>match q.1 with|.norm=>false|_=>true) else none
 else none
theorem SK {F:List Fact}{θ:Sub}(hF:aY n ρ F)(h:lessM F θ mu=true):1<=mu.1.v ρ-mu.2.v ρ/\mu.1.v (back θ ρ)-mu.2.v (back θ ρ)+1<=mu.1.v ρ-mu.2.v ρ:=by
 unfold lessM at h;simp at h;obtain ⟨j,a⟩:=h;have m:=aU hF j;rw [Lin.ny] at m;rw [<-o9,<-o9];rcases a with ⟨a,f⟩|⟨a,f⟩;·have l:=aU hF a;have q:=aU hF f<;>grind[Lin.ny]
 have l:=aU hF a;have q:=aU hF f<;>grind[Lin.ny]
theorem zdX {b:C}{f:ASt->Option (List J9)}{I:ASt}{τ:St}
  (hf:∀{ρ':Rho} {σ':St} {os:List J9},NY Γ x I.nx ρ'->R x.T ρ' I σ'->f I=some os->EY x.T Γ nIn ρ' I σ' b os)
  (hx:NY Γ x a.nx ρ) (hc:canon nIn τ=some σ) (hr:R x.T ρ a σ) (h:ziL (kle x.T) nIn f a I mu=some outs):EY x.T Γ nIn ρ a τ (.loop b) outs:=by
 unfold ziL at h;split at h
 ·rename_i L;simp only [qab] at L;obtain ⟨⟨h1,h2⟩,h3⟩:=L;split at h;·cases h
  rename_i os ho;split at h
  ·rename_i y;cases h;have pa:∀(d:Nat) (ρI:Rho) (σ τ:St),More a.nx ρ I.nx ρI->R x.T ρI I σ->canon nIn τ=some σ->(mu.1.v ρI-mu.2.v ρI).toNat<=d->
     ∃q,q∈os.filter (fun q=>match q.1 with|.norm=>false|_=>true)/\∃ρ' σ',More a.nx ρ q.2.nx ρ'/\R x.T ρ' q.2 σ'/\∃B,∀N,B<=N->∀F,d+1<=F->iter nIn (run (Γ N) nIn N b) F τ=some (q.1,σ'):=by
    intro d;induction d with
    |zero=>
     intro ρI σ τ n Z A hd;obtain ⟨q,H,ρ',σ',m,u,B,k3⟩:=hf (hx.more n) Z ho;have l:=qaq.1 y q H;obtain ⟨Q,a'⟩:=q;cases Q with
     |norm=>
      exfalso;dsimp only at l m u;split at l;next J E=>rw [qab] at l;obtain ⟨Xm,c1,P,c3⟩:=Ee u E;obtain ⟨e1,e2⟩:=SK P.F l.2;have e3:=m.lin (eH h2);have e4:=m.lin (eH h3);omega
      grind
     |exit j=>exact ⟨_,List.mem_filter.2 ⟨H,rfl⟩,ρ',σ',n.trans m,u,B,fun N M F O=>by
       obtain ⟨F',rfl⟩:∃F',F=F'+1:=⟨F-1,by omega⟩
       grind[bK]⟩
     |ret=>exact ⟨_,List.mem_filter.2 ⟨H,rfl⟩,ρ',σ',n.trans m,u,B,fun N M F O=>by
       obtain ⟨F',rfl⟩:∃F',F=F'+1:=⟨F-1,by omega⟩
       grind[bK]⟩
    |succ d ih=>
     intro ρI σ τ n Z A hd;obtain ⟨q,H,ρ',σ',m,u,B,k3⟩:=hf (hx.more n) Z ho;have l:=qaq.1 y q H;obtain ⟨Q,a'⟩:=q;cases Q with
     |norm=>
      dsimp only at l m u k3;split at l;next J E=>rw [qab] at l;obtain ⟨Xm,c1,P,c3⟩:=Ee u E;obtain ⟨e1,e2⟩:=SK P.F l.2;obtain ⟨r1,r2⟩:=Pj (sok x.T) P l.1;have e3:=m.lin (eH h2);have e4:=m.lin (eH h3);have S:More a.nx ρ I.nx (back (eY a.nx (zA J I)) ρ'):=⟨n.le,fun s U=>by rw [r2.same s U,m.same s (n.lt U),n.same s U]⟩;obtain ⟨q',Y,ρ2,σ2,W,V,B2,p4⟩:=ih _ Xm σ' S r1 c1 (by omega);refine ⟨q',Y,ρ2,σ2,W,V,max B B2,fun N M F O=>?_⟩;obtain ⟨F',rfl⟩:∃F',F=F'+1:=⟨F-1,by omega⟩;exact dY A (k3 N (by omega)) (p4 N (by omega) F' (by omega))
      grind
     |exit j=>exact ⟨_,List.mem_filter.2 ⟨H,rfl⟩,ρ',σ',n.trans m,u,B,fun N M F O=>by
       obtain ⟨F',rfl⟩:∃F',F=F'+1:=⟨F-1,by omega⟩
       grind[bK]⟩
     |ret=>exact ⟨_,List.mem_filter.2 ⟨H,rfl⟩,ρ',σ',n.trans m,u,B,fun N M F O=>by
       obtain ⟨F',rfl⟩:∃F',F=F'+1:=⟨F-1,by omega⟩
       grind[bK]⟩
   obtain ⟨r1,r2⟩:=Pj (sok x.T) hr h1;obtain ⟨q,Y,ρ2,σ2,W,V,B,p4⟩:=pa _ _ σ τ r2 r1 hc (Nat.le_refl _);exact ⟨q,Y,ρ2,σ2,W,V,max B ((mu.1.v (back (eY a.nx (zA a I)) ρ)-mu.2.v (back (eY a.nx (zA a I)) ρ)).toNat+1),fun N M=>by grind[run]⟩
  grind
 grind
def AB (S:Nat->Nat->Bool)(k:Nat)(q p:J9):Bool:=decide (q.1=p.1)&&zmg S k (zA q.2 p.2) q.2 p.2
def thin (S:Nat->Nat->Bool)(k:Nat):List J9->List J9
 |[]=>[]
 |q::r=>let t:=thin S k r
  if t.any (AB S k q) then t else q::t.filter (fun p=>!AB S k p q)
theorem E5 (hS:SOk T S){q p:J9}(h:AB S k q p=true)(hr:R T ρ q.2 σ):p.1=q.1/\∃ρ',More k ρ p.2.nx ρ'/\R T ρ' p.2 σ:=by
 unfold AB at h;rw [qab] at h;have a:=Pj hS hr h.2
 grind
theorem XP {S:Nat->Nat->Bool}(hS:SOk T S){k:Nat}:∀{l:List J9} {q:J9} {ρ:Rho} {σ:St},q∈l->k<=q.2.nx->R T ρ q.2 σ->∃p,p∈thin S k l/\p.1=q.1/\∃ρ',More k ρ p.2.nx ρ'/\R T ρ' p.2 σ
 |[],_,_,_,h,_,_=>by cases h
 |a::r,q,ρ,σ,h,hk,hr=>by
  have self:∀{q:J9},k<=q.2.nx->R T ρ q.2 σ->∃ρ',More k ρ q.2.nx ρ'/\R T ρ' q.2 σ:=fun hk hr=>⟨ρ,⟨hk,fun _ _=>rfl⟩,hr⟩;rcases qak.1 h with rfl|h
  ·unfold thin;dsimp only;split;next hs=>obtain ⟨p,hp,hw⟩:=List.any_eq_true.1 hs<;>grind[E5]
   grind
  obtain ⟨p,hp,e,ρ1,m1,r1⟩:=XP hS h hk hr;unfold thin;dsimp only;split
  ·grind
  cases hw:AB S k p a with
  |true=>obtain ⟨e2,ρ2,m2,r2⟩:=E5 hS hw r1;exact ⟨a,qar,e2.trans e,ρ2,⟨m2.le,fun s hs=>(m2.same s hs).trans (m1.same s hs)⟩,r2⟩
  |false=>grind
theorem EY.thin (hS:SOk T S){Γ:Nat->Gam}{c:C}(h:EY T Γ nIn ρ a σ c outs):EY T Γ nIn ρ a σ c (thin S a.nx outs):=by obtain ⟨q,u,ρ',σ',f,n,B,A⟩:=h;obtain ⟨p,y,e,ρ2,j,m⟩:=XP hS u f.le n;exact ⟨p,y,ρ2,σ',⟨j.le,fun s l=>(j.same s l).trans (f.same s l)⟩,m,B,fun N E=>by grind⟩
def J6 (x:Cx)(orc:Orc)(nIn:Nat):C->Nat->ASt->Option (List J9)
 |.skip,_,a=>some [(.norm,a)]
 |.reg gh draw l live,base,a=>(zqJ x base gh draw l live a).map (thin (kle x.T) a.nx)
 |.seq p q,base,a=>match J6 x orc nIn p base a with
  |none=>none
  |some outs=>(qj (outs.map fun o=>match o.1 with
   |.norm=>J6 x orc nIn q base o.2
   |e=>some [(e,o.2)])).map (fun ls=>thin (kle x.T) a.nx (List.flatten ls))
 |.cond c p q,base,a=>match a.ev c with
  |some (.b tf ff)=>
   match (match assume a tf with|some a'=>J6 x orc nIn p base a'|none=>some []),(match assume a ff with|some a'=>J6 x orc nIn q base a'|none=>some []) with
   |some l,some r=>some (thin (kle x.T) a.nx (l++r))
   |_,_=>none
  |_=>none
 |.block id p,base,a=>(J6 x orc nIn p base a).map fun outs=>outs.map fun o=>(match o.1 with|.exit j=>if j==id then .norm else .exit j|e=>e,o.2)
 |.loop p,_,a=>match Uf nIn a with
  |none=>none
  |some a'=>match orc p a' with
   |none=>none
   |some (I,mu)=>ziL (kle x.T) nIn (J6 x orc nIn p (zgs I.nx)) a' I mu
 |.exit id,_,a=>some [(.exit id,a)]
 |.ret,_,a=>some [(.ret,a)]
 |_,_,_=>none
theorem uw {x:Cx}{orc:Orc}{nIn:Nat}:∀{c:C} {base:Nat} {ρ:Rho} {a:ASt} {σ:St} {outs:List J9},NY Γ x a.nx ρ->R x.T ρ a σ->J6 x orc nIn c base a=some outs->EY x.T Γ nIn ρ a σ c outs
 |.skip,base,ρ,a,σ,outs,hx,hr,h=>by simp [J6] at h;subst h;exact ⟨_,qaa.2 rfl,ρ,σ,.refl ..,hr,0,fun N _=>rfl⟩
 |.reg gh draw l live,base,ρ,a,σ,outs,hx,hr,h=>by
  simp only [J6] at h;obtain ⟨os,ho,rfl⟩:=qac.1 h
  grind[EY.thin,sok,zh7]
 |.seq p q,base,ρ,a,σ,outs,hx,hr,h=>by
  simp only [J6] at h;split at h;·cases h
  rename_i os ho;obtain ⟨ls,hls,rfl⟩:=qac.1 h;refine EY.thin (sok x.T) ?_;obtain ⟨o,hm,ρ1,σ1,k1,k2,B1,k3⟩:=uw hx hr ho;obtain ⟨l,hl,hlm⟩:=iq hls hm;obtain ⟨e,a1⟩:=o;cases e with
  |norm=>dsimp only at hl k1 k2 k3;obtain ⟨w,hw,ρ2,σ2,p1,p2,B2,p3⟩:=uw (hx.more k1) k2 hl;exact ⟨w,List.mem_flatten.2 ⟨l,hlm,hw⟩,ρ2,σ2,k1.trans p1,p2,max B1 B2,fun N hN=>by grind[run]⟩
  |exit j=>dsimp only at hl k1 k2 k3;cases hl;exact ⟨_,List.mem_flatten.2 ⟨_,hlm,qaa.2 rfl⟩,ρ1,σ1,k1,k2,B1,fun N hN=>by grind[run]⟩
  |ret=>dsimp only at hl k1 k2 k3;cases hl;exact ⟨_,List.mem_flatten.2 ⟨_,hlm,qaa.2 rfl⟩,ρ1,σ1,k1,k2,B1,fun N hN=>by grind[run]⟩
 |.cond c p q,base,ρ,a,σ,outs,hx,hr,h=>by
  simp only [J6] at h;split at h
  ·rename_i tf ff e;obtain ⟨y,hy,gy⟩:=dA hr e;cases gy with
   |b h1 h2=>
    rename_i t;split at h
    ·rename_i l r hl hr';cases h;refine EY.thin (sok x.T) ?_;cases t with
     |true=>obtain ⟨a',e1,e2,e3⟩:=kF hr (h1 rfl);rw [e1] at hl;obtain ⟨w,hw,ρ2,σ2,p1,p2,B,p3⟩:=uw (e3▸hx) e2 hl;exact ⟨w,List.mem_append_left _ hw,ρ2,σ2,e3▸p1,p2,B,fun N hN=>by simp_all[run]⟩
     |false=>obtain ⟨a',e1,e2,e3⟩:=kF hr (h2 rfl);rw [e1] at hr';obtain ⟨w,hw,ρ2,σ2,p1,p2,B,p3⟩:=uw (e3▸hx) e2 hr';exact ⟨w,List.mem_append_right _ hw,ρ2,σ2,e3▸p1,p2,B,fun N hN=>by simp_all[run]⟩
    grind
  grind
 |.block id p,base,ρ,a,σ,outs,hx,hr,h=>by
  simp only [J6] at h;obtain ⟨os,ho,rfl⟩:=qac.1 h;obtain ⟨o,hm,ρ1,σ1,k1,k2,B,k3⟩:=uw hx hr ho;refine ⟨_,qal.2 ⟨o,hm,rfl⟩,ρ1,σ1,k1,k2,B,fun N hN=>?_⟩
  grind[run]
 |.loop p,base,ρ,a,σ,outs,hx,hr,h=>by
  simp only [J6] at h;split at h;·cases h
  rename_i a' hc;split at h;·cases h
  rename_i I mu ho;obtain ⟨σ',c1,c2,c3⟩:=Ee hr hc;obtain ⟨w,hw,ρ2,σ2,p1,p2,B,p3⟩:=zdX (Γ:=Γ) (x:=x) (b:=p) (τ:=σ) (σ:=σ') (fun hx' hr' ho'=>uw hx' hr' ho') (c3▸hx) c1 c2 h;exact ⟨w,hw,ρ2,σ2,c3▸p1,p2,B,p3⟩
 |.exit id,base,ρ,a,σ,outs,hx,hr,h=>by simp [J6] at h;subst h;exact ⟨_,qaa.2 rfl,ρ,σ,.refl ..,hr,0,fun N _=>rfl⟩
 |.ret,base,ρ,a,σ,outs,hx,hr,h=>by simp [J6] at h;subst h;exact ⟨_,qaa.2 rfl,ρ,σ,.refl ..,hr,0,fun N _=>rfl⟩
 |.rf _ _ _ _ _,base,ρ,a,σ,outs,hx,hr,h=>by grind[J6]
 |.stuck,base,ρ,a,σ,outs,hx,hr,h=>by grind[J6]
end
end Go.Ab
