/-.-/
import Derived.Test.YtkeefpkcepodeaaGreatDoorEmU10
set_option linter.all false
namespace Go.Ab
open Go.Em
section
variable {a:ASt}{raw:Bool}{θl:List (Nat×Lin)}{bxs:List Bx}{xs:List X}{σ:St}
variable {T:Tab} {n m:Nat} {ρ ρ':Rho}
mutual
def AX.data (F:List Fact)(bx:List ABx)(raw:Bool):AX->Option AX
 |.bs i o l=>match bx[i]?,Yg o l with
  |some (.row sz k h rl),some e=>if leL F e rl then some (.sl (some false) sz k h l) else none
  |_,_=>none
 |.sl t sz k h l=>some (.sl (if raw then t else some false) sz k h l)
 |.agg cs=>(Sl F bx raw cs).map .agg
 |.tup cs=>(Sl F bx raw cs).map .tup
 |.x (.v v)=>some (.x (.v v))
 |.x .ifc=>some (.x .ifc)
 |.x (.sl t s es)=>some (.x (.sl (raw&&t) s es))
 |.x _=>none
 |.i k l=>some (.i k l)
 |.b t u=>some (.b t u)
 |.s l=>some (.s l)
 |.ptr i e o=>some (.ptr i e o)
 |.dp cs=>some (.dp cs)
 |.fn f cs=>some (.fn f cs)
 |.yl i=>some (.yl i)
 |.mp i=>some (.mp i)
 |.vV=>some .vV
 |.el k h=>some (.el k h)
 |.de k h=>some (.de k h)
def Sl (F:List Fact)(bx:List ABx)(raw:Bool):List AX->Option (List AX)
 |[]=>some []
 |x::r=>match x.data F bx raw with
  |none=>none
  |some y=>(Sl F bx raw r).map (y::·)
end
theorem zcB {P:Nat->List X->Prop}{t:ET}{x:X}(h:Ea P t x):∃y,x.data bxs raw=some y/\Ea P t y:=by
 unfold Ea at h;split at h;·exact ⟨_,rfl,h⟩
 ·exact ⟨_,rfl,trivial⟩
 ·exact ⟨_,rfl,h⟩
 ·exact ⟨_,rfl,h⟩
 ·exact ⟨_,rfl,trivial⟩
 ·rcases h with rfl|rfl;·exact ⟨_,rfl,.inl rfl⟩
  exact ⟨_,rfl,.inr rfl⟩
 grind
theorem Vu {P:Nat->List X->Prop}{bxs:List Bx}{raw:Bool}:∀{ts:List ET} {xs:List X},ETs P ts xs->∃ys,dH bxs raw xs=some ys/\ETs P ts ys
 |[],[],_=>⟨[],rfl,trivial⟩
 |t::ts,x::xs,h=>by obtain ⟨y,h1,h2⟩:=zcB (bxs:=bxs) (raw:=raw) h.1;obtain ⟨ys,h3,h4⟩:=Vu (bxs:=bxs) (raw:=raw) h.2;exact ⟨y::ys,by grind[dH],h2,h4⟩
theorem zpS {T:Tab}{h:Int}{k:Nat}(hd:D T h k xs):∃ys,dH bxs raw xs=some ys/\D T h k ys:=by
 obtain ⟨j,a,n,f⟩:=mP hd;obtain ⟨ys,l,m⟩:=Vu (bxs:=bxs) (raw:=raw) f
 grind[dI]
mutual
theorem G.data {F:List Fact}{bx:List ABx}{bxs:List Bx}{raw:Bool}(hF:aV n ρ F)(hb:GBs T n ρ bx bxs)(h0:ρ 0=0):∀{a y:AX} {x:X},G T n ρ a x->a.data F bx raw=some y->∃z,x.data bxs raw=some z/\G T n ρ y z
 |.bs i o l,y,.bs _ o' l',.bs q1 q2 q3 q4,h=>by
  unfold AX.data at h;split at h
  ·rename_i sz k hh rl e hbx ha;split at h
   ·rename_i hc;cases h;have c:=aS hF hc;rw [qN h0 ha] at c;obtain ⟨b,hb',hgb⟩:=hb.get hbx;cases hgb with
    |row w1 w2 w3 w4=>
     rename_i es;have hle:o'+l'<=es.length:=by omega
     refine ⟨.sl false sz ((es.drop o').take l'),by simp_all[X.data,rowOf],.sl w1 q2 rfl ?_ fun w hw=>w4 w (List.mem_of_mem_drop (List.mem_of_mem_take hw))⟩
     grind
   grind
  grind
 |.sl t sz k hh l,y,.sl tt _ es,.sl q1 q2 q3 q4 q5,h=>by
  simp [AX.data] at h;subst h;refine ⟨_,rfl,.sl q1 q2 ?_ q4 q5⟩;cases raw with
  |true=>grind
  |false=>exact rfl
 |.agg cs,y,.agg xs,.agg q,h=>by simp only [AX.data] at h;obtain ⟨ys,h1,rfl⟩:=qac.1 h;obtain ⟨zs,h2,h3⟩:=GL.data hF hb h0 q h1;exact ⟨_,by grind[X.data],.agg h3⟩
 |.tup cs,y,.tup xs,.tup q,h=>by simp only [AX.data] at h;obtain ⟨ys,h1,rfl⟩:=qac.1 h;obtain ⟨zs,h2,h3⟩:=GL.data hF hb h0 q h1;exact ⟨_,by grind[X.data],.tup h3⟩
 |.x (.v v),y,_,.x q,h=>by simp [AX.data] at h;subst h;exact ⟨_,rfl,.x q⟩
 |.x .ifc,y,_,.x q,h=>by simp [AX.data] at h;subst h;exact ⟨_,rfl,.x q⟩
 |.x (.sl t s es),y,_,.x q,h=>by simp [AX.data] at h;subst h;exact ⟨_,rfl,.x rfl⟩
 |.i k l,y,_,.i q1 q2,h=>by simp [AX.data] at h;subst h;exact ⟨_,rfl,.i q1 q2⟩
 |.b t u,y,_,.b q1 q2,h=>by simp [AX.data] at h;subst h;exact ⟨_,rfl,.b q1 q2⟩
 |.s l,y,_,.s q1 q2,h=>by simp [AX.data] at h;subst h;exact ⟨_,rfl,.s q1 q2⟩
 |.ptr i e o,y,_,.ptr q1 q2,h=>by simp [AX.data] at h;subst h;exact ⟨_,rfl,.ptr q1 q2⟩
 |.dp cs,y,_,.dp q,h=>by simp [AX.data] at h;subst h;exact ⟨_,rfl,.dp q⟩
 |.fn f cs,y,_,.fn q,h=>by simp [AX.data] at h;subst h;exact ⟨_,rfl,.fn q⟩
 |.yl i,y,_,.yl,h=>by simp [AX.data] at h;subst h;exact ⟨_,rfl,.yl⟩
 |.mp i,y,_,.mp,h=>by simp [AX.data] at h;subst h;exact ⟨_,rfl,.mp⟩
 |.vV,y,_,.ifc,h=>by simp [AX.data] at h;subst h;exact ⟨_,rfl,.ifc⟩
 |.vV,y,_,.I9,h=>by simp [AX.data] at h;subst h;exact ⟨_,rfl,.I9⟩
 |.el k h',y,_,.el (xs:=xs) q1 q2,h=>by simp [AX.data] at h;subst h;obtain ⟨ys,h1,h2⟩:=zpS (bxs:=bxs) (raw:=raw) q2;exact ⟨.agg ys,by grind[X.data],.el q1 h2⟩
 |.de k h',y,_,.de q1 q2,h=>by simp [AX.data] at h;subst h;exact ⟨_,rfl,.de q1 q2⟩
theorem GL.data {F:List Fact}{bx:List ABx}{bxs:List Bx}{raw:Bool}(hF:aV n ρ F)(hb:GBs T n ρ bx bxs)(h0:ρ 0=0):∀{a y:List AX} {x:List X},GL T n ρ a x->Sl F bx raw a=some y->∃z,dH bxs raw x=some z/\GL T n ρ y z
 |[],y,_,.nil,h=>by simp only [Sl,qag] at h;subst h;exact ⟨[],rfl,.nil⟩
 |a::l,y,_,.cons g1 g2,h=>by
  unfold Sl at h;split at h;·cases h
  rename_i y' h1;obtain ⟨ys,h2,rfl⟩:=qac.1 h;obtain ⟨z,h3,h4⟩:=G.data hF hb h0 g1 h1;obtain ⟨zs,h5,h6⟩:=GL.data hF hb h0 g2 h2;exact ⟨z::zs,by grind[dH],.cons h4 h6⟩
end
mutual
def AX.rows:AX->List Nat
 |.bs i _ _=>[i]
 |.agg cs=>J7 cs
 |.tup cs=>J7 cs
 |.i _ _|.b _ _|.s _|.x _|.sl _ _ _ _ _|.ptr _ _ _|.dp _|.fn _ _|.yl _|.mp _|.vV|.el _ _|.de _ _=>[]
def J7:List AX->List Nat
 |[]=>[]
 |x::r=>x.rows++J7 r
end
mutual
theorem Nz:∀(x:X),x.refs=[]->x.rows=[]
 |.bs _ _ _,h=>by grind[X.refs]
 |.agg cs,h=>oL cs h
 |.tup cs,h=>oL cs h
 |.v _,_=>rfl
 |.sl _ _ _,_=>rfl
 |.ptr _ _ _,_=>rfl
 |.dp _,_=>rfl
 |.fn _ _,_=>rfl
 |.yl _,_=>rfl
 |.mp _,_=>rfl
 |.ifc,_=>rfl
theorem oL:∀(xs:List X),bT xs=[]->iO xs=[]
 |[],_=>rfl
 |x::r,h=>by have h:x.refs++bT r=[]:=h;obtain ⟨h1,h2⟩:=List.append_eq_nil_iff.1 h;show x.rows++iO r=[];rw [Nz x h1,oL r h2];rfl
end
mutual
theorem G.rows:∀{a:AX} {x:X},G T n ρ a x->x.rows=a.rows
 |_,_,.i _ _=>rfl
 |_,_,.b _ _=>rfl
 |_,_,.s _ _=>rfl
 |_,_,.x h=>Nz _ h
 |_,_,.sl _ _ _ _ _=>rfl
 |_,_,.bs _ _ _ _=>rfl
 |_,_,.ptr _ _=>rfl
 |_,_,.dp _=>rfl
 |_,_,.fn _=>rfl
 |_,_,.agg h=>h.rows
 |_,_,.tup h=>h.rows
 |_,_,.yl=>rfl
 |_,_,.mp=>rfl
 |_,_,.ifc=>rfl
 |_,_,.I9=>rfl
 |_,_,.el _ h=>oL _ (qU h)
 |_,_,.de _ _=>rfl
theorem GL.rows:∀{a:List AX} {x:List X},GL T n ρ a x->iO x=J7 a
 |_,_,.nil=>rfl
 |_,_,.cons h1 h2=>by show X.rows _++iO _=AX.rows _++J7 _;rw [h1.rows,h2.rows]
end
mutual
def AX.plain:AX->Bool
 |.i _ _|.b _ _|.s _=>true
 |.x (.v _)=>true
 |.agg cs=>IW cs
 |.tup cs=>IW cs
 |.fn _ cs=>IW cs
 |_=>false
def IW:List AX->Bool
 |[]=>true
 |x::r=>x.plain&&IW r
end
mutual
theorem G.plain:∀{a:AX} {x:X},G T n ρ a x->a.plain=true->x.plain=true
 |_,_,.i _ _,_=>rfl
 |_,_,.b _ _,_=>rfl
 |_,_,.s _ _,_=>rfl
 |.x (.v _),_,.x _,_=>rfl
 |_,_,.fn h,e=>h.plain e
 |_,_,.agg h,e=>h.plain e
 |_,_,.tup h,e=>h.plain e
theorem GL.plain:∀{a:List AX} {x:List X},GL T n ρ a x->IW a=true->BQ x=true
 |_,_,.nil,_=>rfl
 |a::l,x::m,.cons h1 h2,e=>by have e:(a.plain&&IW l)=true:=e;rw [qab] at e;show (x.plain&&BQ m)=true;rw [h1.plain e.1,h2.plain e.2];rfl
end
structure zgo where
 m:Nat
 F:List Fact
 r:AX
 bx:List ABx
 deriving Inhabited
structure Ctr where
 f:FuncId
 m:Nat
 args:List AX
 inb:List ABx
 pre:List Fact
 mu:Option Lin
 outs:List zgo
 rank:Nat
 alts:List (List Fact)
 deriving Inhabited
variable {c:Ctr}
structure Ctr.Sat (T:Tab) (c:Ctr) (ρ:Rho) (args:List X) (inb:List Bx):Prop where
 zero:ρ 0=0
 pos:0<c.m
 pre:aV c.m ρ c.pre
 alts:∃p,p∈c.alts/\aV c.m ρ p
 args:GL T c.m ρ c.args args
 inb:GBs T c.m ρ c.inb inb
def Ctr.Res (T:Tab)(Γ:Nat->Gam)(c:Ctr)(ρ:Rho)(args:List X)(inb:List Bx):Prop:=
 ∃o,o∈c.outs/\∃ρ' r bx,More c.m ρ o.m ρ'/\aV o.m ρ' o.F/\G T o.m ρ' o.r r/\GBs T o.m ρ' o.bx bx/\∃B,∀N,B<=N->Γ N (.fn c.f) args inb=some (r,bx)
def Ctr.Holds (T:Tab)(Γ:Nat->Gam)(c:Ctr):Prop:=∀ρ args inb,c.Sat T ρ args inb->c.Res T Γ ρ args inb
def Ctr.Below (T:Tab)(Γ:Nat->Gam)(c:Ctr)(d:Int):Prop:=∀ρ args inb,c.Sat T ρ args inb->(∃l,c.mu=some l/\0<=l.v ρ/\16*l.v ρ+c.rank<d)->c.Res T Γ ρ args inb
def Bz (l p:Lin)(acc:List (Nat×Lin)):List (Nat×Lin):=
 if Nat.beq p.s 0 then acc else if acc.any (fun q=>Nat.beq q.1 p.s) then acc else (p.s,l.up (-p.c))::acc
mutual
def zf8:AX->AX->List (Nat×Lin)->List (Nat×Lin)
 |.i _ l,.i _ p,acc=>Bz l p acc
 |.s l,.s p,acc=>Bz l p acc
 |.x (.v (.string bs)),.s p,acc=>Bz (.k bs.size) p acc
 |.sl _ _ _ h l,.sl _ _ _ h' l',acc=>Bz h h' (Bz l l' acc)
 |.x (.sl _ _ []),.sl _ _ _ _ l',acc=>Bz (.k 0) l' acc
 |.bs _ o l,.bs _ o' l',acc=>Bz o o' (Bz l l' acc)
 |.ptr _ e _,.ptr _ e' _,acc=>Bz e e' acc
 |.dp cs,.dp ps,acc=>G7 cs ps acc
 |.fn _ cs,.fn _ ps,acc=>G7 cs ps acc
 |.agg cs,.agg ps,acc=>G7 cs ps acc
 |.tup cs,.tup ps,acc=>G7 cs ps acc
 |.el _ h,.el _ h',acc=>Bz h h' acc
 |_,_,acc=>acc
def G7:List AX->List AX->List (Nat×Lin)->List (Nat×Lin)
 |a::l,b::r,acc=>G7 l r (zf8 a b acc)
 |_,_,acc=>acc
end
def ztq:ABx->ABx->List (Nat×Lin)->List (Nat×Lin)
 |.var cs,.var ps,acc=>G7 cs ps acc
 |.row _ _ h l,.row _ _ h' l',acc=>Bz h h' (Bz l l' acc)
 |.el _ h,.el _ h',acc=>Bz h h' acc
 |_,_,acc=>acc
def Ph:List ABx->List ABx->List (Nat×Lin)->List (Nat×Lin)
 |a::l,b::r,acc=>Ph l r (ztq a b acc)
 |_,_,acc=>acc
def nU (acc:List (Nat×Lin)):Sub
 |0=>.k 0
 |s+1=>match acc.find? (fun q=>Nat.beq q.1 (s+1)) with
  |some q=>q.2
  |none=>.k 0
theorem zdx {acc:List (Nat×Lin)}(hn:0<n)(h:acc.all (fun q=>blt q.2 n)=true)(s:Nat):(nU acc s).s<n:=by
 cases s with
 |zero=>exact hn
 |succ s=>
  show (match acc.find? (fun q:Nat×Lin=>Nat.beq q.1 (s+1)) with|some q=>q.2|none=>Lin.k 0).s<n;split;next q a=>exact zch (qao.1 h q (List.mem_of_find?_eq_some a))
  exact hn
def leM (c:In):List (Value×AX)->List (Value×AX)->Bool
 |[],[]=>true
 |(.int k z,a)::l,(.int k' z',b)::r=>decide (k=k')&&decide (z=z')&&leX c a b&&leM c l r
 |_,_=>false
def leB (c:In):ABx->ABx->Bool
 |.var cs,.var ps=>zeB c cs ps
 |.row sz k h l,.row sz' k' h' l'=>Nat.beq sz sz'&&Nat.blt h'.s c.m&&lEq c l l'&&(leL c.F l (.k 0)||(c.S k k'&&lLe c h h'))
 |.dead,.dead=>true
 |.map es,.map ps=>leM c es ps
 |.el k h,.el k' h'=>c.S k k'&&lLe c h h'
 |_,_=>false
def zor (c:In):List ABx->List ABx->Bool
 |[],[]=>true
 |a::l,b::r=>leB c a b&&zor c l r
 |_,_=>false
theorem zg4 {c:In}(hS:SOk T c.S)(h0:ρ 0=0)(hF:aV n ρ c.F):∀{a p:List (Value×AX)} {x:List (Value×X)},leM c a p=true->GM T n ρ a x->GM T c.m (back c.θ ρ) p x
 |[],[],_,_,.nil=>.nil
 |(.int k z,a)::l,(.int k' z',b)::r,_,h,.cons h1 h2=>by unfold leM at h;simp at h;obtain ⟨⟨⟨rfl,rfl⟩,e2⟩,e3⟩:=h;exact .cons (Um hS h0 hF e2 h1) (zg4 hS h0 hF e3 h2)
theorem zg5 {c:In}(hS:SOk T c.S)(h0:ρ 0=0)(hF:aV n ρ c.F){a p:ABx}{x:Bx}(h:leB c a p=true)(hg:GB T n ρ a x):GB T c.m (back c.θ ρ) p x:=by
 unfold leB at h;split at h;·cases hg with|var q=>exact .var (xu hS h0 hF h q)
 ·simp only [qab,Bool.or_eq_true] at h;obtain ⟨⟨⟨f,l⟩,u⟩,j⟩:=h;have f:=qaj f;subst f;obtain ⟨y,B⟩:=yX hF u;cases hg with
  |row q1 q2 q4 q5=>
   refine .row (dY l) y (by grind) fun e A=>?_;rcases j with j|⟨j,w⟩;·have:=aS hF j<;>grind[Lin.k_v]
   exact hS j (fP (Uo hF w).2 (q5 e A))
 ·cases hg;exact .dead
 ·cases hg with|map q=>exact .map (zg4 hS h0 hF h q)
 ·rw [qab] at h;have f:=Uo hF h.2;cases hg with|el q1 q2=>exact .el f.1 (hS h.1 (fP f.2 q2))
 grind
theorem QB {c:In}(hS:SOk T c.S)(h0:ρ 0=0)(hF:aV n ρ c.F):∀{a p:List ABx} {x:List Bx},zor c a p=true->GBs T n ρ a x->GBs T c.m (back c.θ ρ) p x
 |[],[],_,_,.nil=>.nil
 |a::l,b::r,_,h,.cons h1 h2=>by unfold zor at h;rw [qab] at h;exact .cons (zg5 hS h0 hF h.1 h1) (QB hS h0 hF h.2 h2)
def okF (a:ASt)(c:Ctr)(θl:List (Nat×Lin))(f:Fact):Bool:=Nat.blt f.x c.m&&Nat.blt f.y c.m&&leL a.F (nU θl f.x) ((nU θl f.y).up f.c)
def zmR (S:Nat->Nat->Bool)(a:ASt)(c:Ctr)(θl:List (Nat×Lin))(args:List AX)(inb:List ABx):Bool:=
 θl.all (fun q=>blt q.2 a.nx)&&Nat.blt 0 c.m&&zeB ⟨S,a.F,nU θl,c.m⟩ args c.args&&zor ⟨S,a.F,nU θl,c.m⟩ inb c.inb&&
  c.pre.all (okF a c θl)&&c.alts.any (fun p=>p.all (okF a c θl))
theorem zbA {S:Nat->Nat->Bool}(hS:SOk T S)(hr:R T ρ a σ){args:List AX}{inb:List ABx}(hg:GL T a.nx ρ args xs)(hb:GBs T a.nx ρ inb bxs)(h:zmR S a c θl args inb=true):c.Sat T (back (nU θl) ρ) xs bxs:=by
 unfold zmR at h;simp only [qab] at h;obtain ⟨⟨⟨⟨⟨O,A⟩,B⟩,E⟩,H⟩,J⟩:=h;have j:∀l:List Fact,l.all (okF a c θl)=true->aV c.m (back (nU θl) ρ) l:=fun l M f L=>by have:=qao.1 M f L;unfold okF at this;simp only [qab] at this;obtain ⟨⟨u,w⟩,y⟩:=this;have q:=aS hr.F y;rw [Lin.nT] at q;exact ⟨dY u,dY w,q⟩
 obtain ⟨p,N,n⟩:=List.any_eq_true.1 J;exact ⟨by unfold back nU;exact Lin.k_v hr.zero 0,dY A,j _ H,⟨p,N,j _ n⟩,xu (c:=⟨S,a.F,nU θl,c.m⟩) hS hr.zero hr.F B hg,QB (c:=⟨S,a.F,nU θl,c.m⟩) hS hr.zero hr.F E hb⟩
def zmG (nx m:Nat)(θ:Sub):Sub:=fun s=>if Nat.blt s m then θ s else ⟨nx+(s-m),0⟩
def iL (a:ASt)(c:Ctr)(θl:List (Nat×Lin))(o:zgo):AX×List ABx×ASt:=
 let θ:=zmG a.nx c.m (nU θl)
 (o.r.sub θ,o.bx.map (ABx.sub θ),{a with nx:=a.nx+(o.m-c.m),F:=o.F.map (Fact.sub θ)++a.F})
theorem zci {s m:Nat}:Nat.blt s m=true↔s<m:=by simp_all
theorem Pn (hr:R T ρ a σ){o:zgo}{ρo:Rho}{r:X}{bx:List Bx}(hθ:θl.all (fun q=>blt q.2 a.nx)=true)(hm:More c.m (back (nU θl) ρ) o.m ρo)(hF:aV o.m ρo o.F)(hg:G T o.m ρo o.r r)(hb:GBs T o.m ρo o.bx bx):
  ∃ρ',More a.nx ρ (iL a c θl o).2.2.nx ρ'/\R T ρ' (iL a c θl o).2.2 σ/\G T (iL a c θl o).2.2.nx ρ' (iL a c θl o).1 r/\GBs T (iL a c θl o).2.2.nx ρ' (iL a c θl o).2.1 bx:=by
 let ρ':Rho:=fun s=>if s<a.nx then ρ s else ρo (c.m+(s-a.nx))
 have w:=hm.le;have f:More a.nx ρ (a.nx+(o.m-c.m)) ρ':=⟨by omega,fun s u=>if_pos u⟩;have j:Ii o.m ρo (a.nx+(o.m-c.m)) ρ' (zmG a.nx c.m (nU θl)):=fun s u=>by
  unfold zmG;by_cases n:s<c.m;·rw [if_pos (zci.2 n)];have l:=zdx hr.pos hθ s;exact ⟨by omega,by rw [f.lin l,hm.same s n];rfl⟩
  rw [if_neg (fun h=>n (zci.1 h))];refine ⟨by grind,?_⟩;unfold Lin.v
  grind
 have l:=hr.more f;exact ⟨ρ',f,⟨l.zero,l.pos,(hF.sub j).append l.F,l.tm,l.bx⟩,hg.sub j,hb.sub j⟩
end
section
variable {a:ASt}{c:Ctr}{g:FuncId}{i:I}{θl:List (Nat×Lin)}{args:List AX}{outs:List Out}{Vz:List X}{σ:St}
variable {T:Tab} {n m:Nat} {ρ ρ':Rho} {Γ:Nat->Gam}
structure Cx where
 T:Tab
 K:Names
 C:List Ctr
 own:List Ctr
 mu:Option Lin
 rank:Nat
variable {x:Cx}
structure Pv (Γ:Nat->Gam) (x:Cx) (n:Nat) (ρ:Rho):Prop where
 all:∀c,c∈x.C->c.Holds x.T Γ
 own:∀l,x.mu=some l->l.s<n/\∀c,c∈x.own->c.Below x.T Γ (16*l.v ρ+x.rank)
theorem Pv.more {n':Nat}(h:Pv Γ x n ρ)(hm:More n ρ n' ρ'):Pv Γ x n' ρ':=
 ⟨h.all,fun l f=>by obtain ⟨a,j⟩:=h.own l f;exact ⟨hm.lt a,by rw [hm.lin a]<;>grind⟩⟩
def zon (x:Cx)(a:ASt)(c:Ctr)(θl:List (Nat×Lin)):Bool:=match x.mu,c.mu with
 |some l,some p=>Nat.blt p.s c.m&&leL a.F (.k 0) (p.sub (nU θl))&&(leL a.F ((p.sub (nU θl)).up 1) l&&Nat.blt c.rank 16||leL a.F (p.sub (nU θl)) l&&Nat.blt c.rank x.rank)
 |_,_=>false
def zfx (x:Cx)(a:ASt)(g:FuncId)(args:List AX)(inb:List ABx):Option (Ctr×List (Nat×Lin)):=
 let cand:=fun c:Ctr=>(c,Ph inb c.inb (G7 args c.args []))
 match (x.C.filter fun c=>Nat.beq c.f g).find? (fun c=>zmR (kle x.T) a c (cand c).2 args inb) with
 |some c=>some (cand c)
 |none=>match (x.own.filter fun c=>Nat.beq c.f g).find? (fun c=>zmR (kle x.T) a c (cand c).2 args inb&&zon x a c (cand c).2) with
  |some c=>some (cand c)
  |none=>none
theorem UN (hx:Pv Γ x a.nx ρ)(hr:R x.T ρ a σ){inb:List ABx}{xs:List X}{bxs:List Bx}(hg:GL x.T a.nx ρ args xs)(hb:GBs x.T a.nx ρ inb bxs)(h:zfx x a g args inb=some (c,θl)):
  c.f=g/\θl.all (fun q=>blt q.2 a.nx)=true/\c.Res x.T Γ (back (nU θl) ρ) xs bxs:=by
 have j:∀{θl:List (Nat×Lin)},zmR (kle x.T) a c θl args inb=true->θl.all (fun q=>blt q.2 a.nx)=true:=fun h=>by
  unfold zmR at h
  grind
 unfold zfx at h;dsimp only at h;split at h;next H w=>cases h;have m:=List.find?_some w;have u:=List.mem_filter.1 (List.mem_of_find?_eq_some w);exact ⟨qaj u.2,j m,hx.all c u.1 _ _ _ (zbA (sok x.T) hr hg hb m)⟩
 split at h
 ·rename_i H w;cases h;have m:=List.find?_some w;have u:=List.mem_filter.1 (List.mem_of_find?_eq_some w);rw [qab] at m;refine ⟨qaj u.2,j m.1,?_⟩;have y:=m.2;unfold zon at y;split at y
  ·rename_i l p L M;simp only [qab,Bool.or_eq_true] at y;obtain ⟨⟨O,J⟩,n⟩:=y;obtain ⟨P,N⟩:=hx.own l L;have E:=aS hr.F J;rw [Lin.k_v hr.zero,qc] at E;refine N c u.1 _ _ _ (zbA (sok x.T) hr hg hb m.1) ⟨p,M,E,?_⟩;rcases n with ⟨n,B⟩|⟨n,B⟩;·have A:=aS hr.F n;rw [Lin.nT,qc] at A;have:=dY B;omega
   have A:=aS hr.F n;rw [qc] at A;have:=dY B;omega
  grind
 grind
def zmt (T:Tab)(Γ:Nat->Gam)(ρ:Rho)(a:ASt)(σ:St)(i:I)(outs:List Out):Prop:=
 ∃o,o∈outs/\∃ρ' x bx,More a.nx ρ o.2.1.nx ρ'/\R T ρ' o.2.1 ⟨σ.tm,bx⟩/\G T o.2.1.nx ρ' o.1 x/\∃B,∀N,B<=N->aA (Γ N) σ i=some (x,bx,o.2.2)
theorem dP.e (h:dP T ρ a σ i outs):zmt T Γ ρ a σ i outs:=by obtain ⟨o,j,ρ',x,f,l,m,n,q⟩:=h;exact ⟨o,j,ρ',x,f,l,m,n,0,fun N _=>q _⟩
def zez (a:ASt)(c:Ctr)(θl:List (Nat×Lin))(o:zgo):Bool:=!(o.F.any fun f=>contra a.F (f.sub (zmG a.nx c.m (nU θl))))
theorem Uk {o:zgo}(hr:R T ρ (iL a c θl o).2.2 σ):zez a c θl o=true:=by
 unfold zez;rw [Bool.not_eq_true'];cases q:o.F.any fun f=>contra a.F (f.sub (zmG a.nx c.m (nU θl))) with
 |false=>rfl
 |true=>
  obtain ⟨f,j,l⟩:=List.any_eq_true.1 q;have h:aV (iL a c θl o).2.2.nx ρ (o.F.map (Fact.sub (zmG a.nx c.m (nU θl)))++a.F):=hr.F;have w:=aS (ρ:=ρ) (n:=(iL a c θl o).2.2.nx) (F:=a.F) (fun g u=>h g (List.mem_append_right _ u)) l;have y:=(h _ (List.mem_append_left _ (qah.2 ⟨f,j,rfl⟩))).2.2
  grind[Lin.v]
def zlB (x:Cx)(a:ASt)(g:FuncId)(caps args as:List AX):Option (List Out):=
 match zfx x a g (as++caps) [] with
 |some (c,θl)=>qM ((c.outs.filter (zez a c θl)).map fun o=>match (iL a c θl o).1.data (iL a c θl o).2.2.F (iL a c θl o).2.1 false with
  |some y=>if y.refs.isEmpty&&((J7 args).isEmpty||y.plain) then some (y,(iL a c θl o).2.2,⟨false,J7 args,[]⟩) else none
  |none=>none)
 |none=>none
theorem zf6 (hx:Pv Γ x a.nx ρ)(hr:R x.T ρ a σ){caps as:List AX}{zcQ xas:List X}(hc:GL x.T a.nx ρ caps zcQ)(ha:GL x.T a.nx ρ args Vz)(has:GL x.T a.nx ρ as xas)(h:zlB x a g caps args as=some outs):
  ∃o,o∈outs/\∃ρ' y,More a.nx ρ o.2.1.nx ρ'/\R x.T ρ' o.2.1 σ/\G x.T o.2.1.nx ρ' o.1 y/\oZ y=true/\((iO Vz).isEmpty||y.plain)=true/\o.2.2=⟨false,iO Vz,[]⟩/\∃B,∀N,B<=N->(Γ N).pureD g (xas++zcQ)=some y:=by
 unfold zlB at h;split at h
 ·rename_i c θl O;obtain ⟨M,S,o,P,ρo,r,V,E,H,J,L,B,W⟩:=UN hx hr (has.append hc) .nil O;obtain ⟨ρ',u,l,w,A⟩:=Pn hr S E H J L;obtain ⟨U,f,n⟩:=ig h (List.mem_filter.2 ⟨P,Uk l⟩);generalize iL a c θl o=q at u l w A f;obtain ⟨qr,qb,Z⟩:=q;dsimp only at u l w A f;split at f
  ·rename_i y Q;split at f
   ·rename_i m;cases f;rw [qab] at m;obtain ⟨z,hz,j⟩:=w.data l.F A l.zero Q;refine ⟨_,n,ρ',z,u,l,j,by unfold oZ;rw [j.refs]<;>grind,?_,by rw [ha.rows],B,fun N Y=>?_⟩
    ·have e:=m.2;rw [Bool.or_eq_true] at e;rw [ha.rows,Bool.or_eq_true];rcases e with e|e
     ·grind
     exact .inr (j.plain e)
    grind[Gam.pureD]
   grind
  grind
 grind
def vS:List Nat->List ABx->List ABx->List ABx
 |i::r,b::s,bx=>vS r s (bx.set i b)
 |_,_,bx=>bx
theorem EK:∀{s:List Nat} {l:List ABx} {m:List Bx} {bx:List ABx} {bxs:List Bx},GBs T n ρ l m->GBs T n ρ bx bxs->GBs T n ρ (vS s l bx) (kF s m bxs)
 |[],_,_,_,_,_,hb=>by grind[vS,kF]
 |_::_,_,_,_,_,.nil,hb=>by grind[vS,kF]
 |i::_,_,_,_,_,.cons h1 h2,hb=>by unfold vS kF;exact EK h2 (hb.set i h1)
theorem IL:∀(s:List Nat) (l bx:List ABx),(vS s l bx).length=bx.length
 |[],_,_=>by grind[vS]
 |_::_,[],_=>by grind[vS]
 |i::r,b::s,bx=>by unfold vS;rw [IL,List.length_set]
def zf5 (x:Cx)(a:ASt)(g:FuncId)(args:List AX):Option (List Out):=
 let sel:=vU a.bx iK (qX args) []
 if PU (qX args) sel then match NQ a.bx sel with
  |none=>none
  |some inb=>match zfx x a g (ziI (xK · sel) args) inb with
   |none=>none
   |some (c,θl)=>qM ((c.outs.filter (zez a c θl)).map fun o=>if sel.length<=(iL a c θl o).2.1.length then
     some (((iL a c θl o).1.ren (fun j=>if j<sel.length then sel.getD j 0 else a.bx.length+(j-sel.length))),
      {(iL a c θl o).2.2 with bx:=vS sel ((iL a c θl o).2.1.map (ABx.ren (fun j=>if j<sel.length then sel.getD j 0 else a.bx.length+(j-sel.length)))) a.bx++((iL a c θl o).2.1.map (ABx.ren (fun j=>if j<sel.length then sel.getD j 0 else a.bx.length+(j-sel.length)))).drop sel.length},
      Hr [] sel a.bx.length (a.bx.length+((iL a c θl o).2.1.length-sel.length))) else none)
 else none
theorem Vg (hx:Pv Γ x a.nx ρ)(hr:R x.T ρ a σ)(ha:GL x.T a.nx ρ args Vz)(h:zf5 x a g args=some outs):
  ∃o,o∈outs/\∃ρ' y bx sel,More a.nx ρ o.2.1.nx ρ'/\R x.T ρ' o.2.1 ⟨σ.tm,bx⟩/\G x.T o.2.1.nx ρ' o.1 y/\o.2.2=Hr [] sel σ.bx.length bx.length/\∃B,∀N,B<=N->iU (Γ N) (.fn g) Vz σ.bx=some (y,bx,sel):=by
 unfold zf5 at h;dsimp only at h;split at h
 ·rename_i A;split at h;·cases h
  rename_i pa hp;obtain ⟨q,hq,J⟩:=ER hr.bx hp;split at h;·cases h
  rename_i c θl Y;obtain ⟨W,hθ,o,ho,ρo,r,bx,Q,S,U,V,B,h5⟩:=UN hx hr (ha.ren _) J Y;obtain ⟨ρ',E,n,L,H⟩:=Pn hr hθ Q S U V;obtain ⟨pb,f,m⟩:=ig h (List.mem_filter.2 ⟨ho,Uk n⟩);generalize iL a c θl o=w at E n L H f;obtain ⟨qr,qb,qa⟩:=w;dsimp only at E n L H f;split at f
  ·rename_i O;cases f;have M:=hr.bx.len;have Z:=H.len;rw [M] at m
   let sel:=vU a.bx iK (qX args) []
   let u:=fun j=>if j<sel.length then sel.getD j 0 else σ.bx.length+(j-sel.length)
   have l:=H.ren u;refine ⟨_,m,ρ',r.ren u,kF sel (bx.map (Bx.ren u)) σ.bx++(bx.map (Bx.ren u)).drop sel.length,sel,E,⟨n.zero,n.pos,n.F,n.tm,(EK l (hr.bx.more E)).append (l.drop _)⟩,L.ren _,?_,B,fun N hN=>?_⟩
   ·have P:(kF sel (bx.map (Bx.ren u)) σ.bx++(bx.map (Bx.ren u)).drop sel.length).length=σ.bx.length+(qb.length-sel.length):=by have:=((EK (s:=sel) l (hr.bx.more E)).append (l.drop sel.length)).len;rw [<-this,qaw,IL,qaK,qaB,M]
    rw [P]
   unfold iU;dsimp only;rw [ha.refs,oO hr.bx,if_pos A,hq]
   grind
  grind
 grind
def opC (x:Cx)(a:ASt)(i:I):Option (List Out):=match i with
 |.call own ref raw f args=>match a.ev f,zlm a args with
  |some (.fn g caps),some ys=>if ref then zf5 x a g (ys++caps) else match Sl a.F a.bx raw ys with
   |none=>none
   |some as=>if !own&&(qX (as++caps)).isEmpty then zlB x a g caps ys as
    else if (J7 ys).isEmpty then zf5 x a g (as++caps) else none
  |_,_=>none
 |i=>opA x.T x.K a i
theorem zgU (hx:Pv Γ x a.nx ρ)(hr:R x.T ρ a σ)(h:opC x a i=some outs):zmt x.T Γ ρ a σ i outs:=by
 unfold opC at h;split at h
 ·rename_i own E pb f O;split at h
  ·rename_i g P ys V W;obtain ⟨xf,hf,Y⟩:=bY hr V;obtain ⟨xs,pa,l⟩:=Lj hr W;cases Y with
   |fn gc=>
    rename_i M;split at h;next j=>obtain ⟨o,q,ρ',y,bx,L,u,w,A,S,B,U⟩:=Vg hx hr (l.append gc) h;refine ⟨o,q,ρ',y,bx,u,w,A,B,fun N Q=>?_⟩<;>simp_all[aA,xE]
    rename_i j;have j:E=false:=by cases E with|true=>grind|false=>rfl
    subst j;split at h;·cases h
    rename_i as Z;obtain ⟨zs,hz,H⟩:=l.data hr.F hr.bx hr.zero Z;have m:=(H.append gc).refs;split at h;next J=>rw [qab] at J;obtain ⟨o,q,ρ',y,u,w,A,S,U,k6,B,k7⟩:=zf6 hx hr gc l H h;refine ⟨o,q,ρ',y,σ.bx,u,w,A,B,fun N Q=>?_⟩<;>simp_all[aA,xE]
    rename_i J;split at h
    ·rename_i n;obtain ⟨o,q,ρ',y,bx,L,u,w,A,S,B,U⟩:=Vg hx hr (H.append gc) h;refine ⟨o,q,ρ',y,bx,u,w,A,B,fun N Q=>?_⟩;have e3:¬(!own&&!false&&(bT (zs++M)).isEmpty)=true:=by rw [m];simpa using J
     have e4:(false||(iO xs).isEmpty)=true:=by rw [l.rows,n];rfl
     simp_all[aA,xE]
    grind
  grind
 exact (zoe hr h).e
end
section
variable {a:ASt}{i:I}{outs:List Out}{σ:St}
variable {T:Tab} {n m:Nat} {ρ ρ':Rho} {Γ:Nat->Gam}
def zp8 (T:Tab)(k m:Nat):Bool:=(T k).all fun alt=>Nat.beq alt.length m
theorem zcy {P:Nat->List X->Prop}:∀{ts:List ET} {xs:List X},ETs P ts xs->ts.length=xs.length
 |[],[],_=>rfl
 |_::_,_::_,h=>by rw [qaG,qaG,zcy h.2]
theorem Qz {k m:Nat}{h:Int}{xs:List X}(hl:zp8 T k m=true)(hd:D T h k xs):xs.length=m:=by obtain ⟨_,a,f,j⟩:=mP hd;rw [<-zcy j];exact qaj (qao.1 hl a f)
theorem GBs.zqY:∀{l:List ABx} {m:List Bx} {i:Nat} {a:ABx} {x:Bx},GBs T n ρ l m->m[i]?=some x->GB T n ρ a x->GBs T n ρ (l.set i a) m
 |_,_,i,_,_,.nil,e,_=>by grind
 |_,_,0,_,_,.cons _ h2,e,hx=>by simp at e;subst e;exact .cons hx h2
 |_,_,i+1,_,_,.cons h1 h2,e,hx=>.cons h1 (h2.zqY (by grind) hx)
def Y8 (T:Tab)(a:ASt)(m:Option Nat)(i o k:Nat)(h:Lin):Option (List Out):=
 qM ((Xi T a k h).map fun q=>(takeA m (q.1.drop o)).map fun y=>(y,{q.2 with bx:=q.2.bx.set i (.var q.1)},⟨false,[i],[]⟩))
def opL (T:Tab)(a:ASt):I->Option (List Out)
 |.iaddr none sz x j=>match a.ev x,a.ev j with
  |some (.sl _ s k h len),some (.i _ l)=>if Nat.blt 1 (T k).length&&nonneg a.F l&&Nat.beq s sz&&leL a.F (l.up 1) len then some [(.de k h,a,fp0)] else none
  |_,_=>none
 |.load m p=>match a.ev p with
  |some (.de k h)=>match m with
   |some m=>if zp8 T k m then some [(.el k h,a,⟨false,[],[]⟩)] else none
   |none=>none
  |some (.ptr i e o)=>match a.bx[i]? with
   |some (.el k h)=>if zcH e then (match m with
    |some w=>if Nat.beq o 0&&zp8 T k w then some [(.el k h,a,⟨false,[i],[]⟩)] else Y8 T a m i o k h
    |none=>Y8 T a m i o k h) else none
   |_=>none
  |_=>none
 |.store m p x=>match a.ev p,a.ev x with
  |some (.ptr i e 0),some (.el k h)=>match a.bx[i]? with
   |some (.var cs)=>if zcH e&&zp8 T k m&&Nat.beq cs.length m then some [(Tn,{a with bx:=a.bx.set i (.el k h)},⟨true,[],[i]⟩)] else none
   |_=>none
  |_,_=>none
 |.box x=>match a.ev x with
  |some (.el k h)=>some [(.ptr a.bx.length (.k 0) 0,{a with bx:=a.bx++[.el k h]},⟨true,[],[a.bx.length]⟩)]
  |_=>none
 |_=>none
theorem Nb {m:Option Nat}{i o k:Nat}{h:Lin}{p:Opd}(hr:R T ρ a σ)(hb:a.bx[i]?=some (.el k h))(hp:σ.ev p=some (.ptr i 0 o))(he:Y8 T a m i o k h=some outs):dP T ρ a σ (.load m p) outs:=by
 obtain ⟨b,f,B⟩:=hr.bx.get hb;cases B with
 |el q1 q2=>
  rename_i M;obtain ⟨q,E,ρ',L,j,w⟩:=DY hr q1 q2;obtain ⟨r,n,u⟩:=ig he E;obtain ⟨y,J,rfl⟩:=qac.1 n;obtain ⟨x,H,l⟩:=Dz (w.drop o) J;refine ⟨_,u,ρ',x,σ.bx,L,⟨j.zero,j.pos,j.F,j.tm,j.bx.zqY f (.var w)⟩,l,fun Γ=>?_⟩;have A:jV σ (.ptr i 0 o)=some (M.drop o):=by simp only [jV,f];rfl
  have:o7 σ m (.ptr i 0 o)=some x:=by unfold o7;rw [A];exact H
  simp only [aA,hp,this,qam];rfl
theorem zod (hr:R T ρ a σ)(h:opL T a i=some outs):dP T ρ a σ i outs:=by
 unfold opL at h;split at h
 ·rename_i sz x j;split at h
  ·rename_i t s k M len kd l q U;split at h
   ·rename_i n;cases h;simp only [qab] at n;obtain ⟨⟨⟨_,O⟩,P⟩,Q⟩:=n;obtain ⟨N,y,u⟩:=bY hr q;obtain ⟨jv,hj,gj⟩:=bY hr U;have L:=jf hr O;have E:=FV gj L;have Z:=Int.toNat_of_nonneg L;generalize (l.v ρ).toNat=w at E Z;have c4:=aS hr.F Q;rw [Lin.nT] at c4;have c5:=qaj P;subst c5;cases u with
    |sl q1 q2 q3 q4 q5=>rename_i tt es;obtain ⟨v,hv,J⟩:=kZ (l:=es) (i:=w) (by omega);exact .one hr (.de q1 (q5 v J)) (fun Γ=>by simp only [aA,y,hj,Option.bind_some,E,beq_self_eq_true,if_true,hv,qam];rfl)
   grind
  grind
 ·rename_i m p;split at h
  ·rename_i k M q;split at h
   ·rename_i w;split at h
    ·rename_i n;cases h;obtain ⟨N,y,u⟩:=bY hr q;cases u with
     |de q1 q2=>
      rename_i f;have H:=Qz n q2;refine .one hr (.el q1 q2) (fun Γ=>?_);have:o7 σ (some w) (.dp f)=some (.agg f):=by unfold o7 jV;dsimp only;rw [<-H,List.take_length,if_pos (beq_self_eq_true _)]
      simp only [aA,y,this,qam];rfl
    grind
   grind
  ·rename_i i e o q;split at h
   ·rename_i k M V;split at h
    ·rename_i hz;obtain ⟨N,y,u⟩:=bY hr q;cases u with
     |ptr p1 p2=>
      rename_i S;have L:=uf hz hr.zero;have:S=0:=by omega
      subst this;split at h
      ·rename_i w;split at h
       ·rename_i n;cases h;rw [qab] at n;have ho:=qaj n.1;subst ho;obtain ⟨b,A,B⟩:=hr.bx.get V;cases B with
        |el q1 q2=>
         rename_i f;have H:=Qz n.2 q2;refine .one hr (.el q1 q2) (fun Γ=>?_);have W:jV σ (.ptr i 0 0)=some f:=by simp only [jV,A];rfl
         have:o7 σ (some w) (.ptr i 0 0)=some (.agg f):=by unfold o7;rw [W];dsimp only;rw [<-H,List.take_length,if_pos (beq_self_eq_true _)]
         simp only [aA,y,this,qam];rfl
       grind[Nb]
      grind[Nb]
    grind
   grind
  grind
 ·rename_i m p x;split at h
  ·rename_i i e k M q U;split at h
   ·rename_i cs V;split at h
    ·rename_i n;cases h;simp only [qab] at n;obtain ⟨⟨O,P⟩,Q⟩:=n;obtain ⟨pv,hp,gp⟩:=bY hr q;obtain ⟨N,y,u⟩:=bY hr U;cases gp with
     |ptr p1 p2=>
      rename_i S;have L:=uf O hr.zero;have:S=0:=by omega
      subst this;cases u with
      |el q1 q2=>
       rename_i f;have H:=Qz P q2;obtain ⟨b,A,B⟩:=hr.bx.get V;cases B with
       |var B=>
        rename_i Y;have pa:Y.length=f.length:=by rw [<-B.len,qaj Q,H]
        refine ⟨_,qaa.2 rfl,ρ,undefX,σ.bx.set i (.var f),.refl ..,⟨hr.zero,hr.pos,hr.F,hr.tm,hr.bx.set i (.el q1 q2)⟩,.x rfl,fun Γ=>?_⟩;have hs:splice Y 0 f=some f:=by unfold splice;rw [if_pos (by omega),List.take_zero,List.drop_of_length_le (by omega)];simp
        have:kL σ.bx m (.ptr i 0 0) (.agg f)=some (σ.bx.set i (.var f)):=by unfold kL;rw [if_pos (by simp_all[X.ok1,X.cells])];dsimp only;rw [A];dsimp only;rw [if_pos (show (0==0)=true from rfl)];show (splice Y 0 f).map _=_;rw [hs];rfl
        simp only [aA,hp,y,this,qam];rfl
    grind
   grind
  grind
 ·rename_i x;split at h
  ·rename_i k M q;cases h;obtain ⟨N,y,u⟩:=bY hr q;cases u with
   |el q1 q2=>
    rename_i f;refine ⟨_,qaa.2 rfl,ρ,.ptr σ.bx.length 0 0,σ.bx++[.var f],.refl ..,⟨hr.zero,hr.pos,hr.F,hr.tm,hr.bx.snoc (.el q1 q2)⟩,?_,fun Γ=>?_⟩;·rw [hr.bx.len];exact .ptr hr.pos (Lin.k_v hr.zero 0).symm
    simp only [aA,y,X.ok1,if_true,X.cells];rw [hr.bx.len]
  grind
 grind
mutual
def zrW:AX->List Lin
 |.sl _ _ _ h _=>[h]
 |.agg cs=>zrX cs
 |.tup cs=>zrX cs
 |_=>[]
def zrX:List AX->List Lin
 |[]=>[]
 |a::r=>zrW a++zrX r
end
def maxes:ASt->List Lin->Lin->Option (Lin×ASt)
 |a,[],h=>some (h,a)
 |a,g::r,h=>if Nat.blt g.s a.nx&&Nat.blt h.s a.nx then (match maxS a h g with|(H,a')=>maxes a' r H) else none
theorem KE:∀{l:List Lin} {a a':ASt} {σ:St} {h H:Lin} {ρ:Rho},R T ρ a σ->maxes a l h=some (H,a')->∃ρ',More a.nx ρ a'.nx ρ'/\R T ρ' a' σ
 |[],a,a',σ,h,H,ρ,hr,e=>by cases e;exact ⟨ρ,.refl ..,hr⟩
 |g::r,a,a',σ,h,H,ρ,hr,e=>by
  unfold maxes at e;split at e;next hc=>rw [qab] at hc;obtain ⟨ρ1,m1,r1,_⟩:=zas hr (dY hc.2) (dY hc.1);generalize maxS a h g=q at m1 r1 e;obtain ⟨H1,a1⟩:=q;obtain ⟨ρ2,m2,r2⟩:=KE r1 e;exact ⟨ρ2,m1.trans m2,r2⟩
  grind
def ZW (a:ASt)(i:I):Option ASt:=match i with
 |.store _ p x=>match a.ev p,a.ev x with
  |some (.ptr b _ _),some y=>match a.bx[b]? with
   |some (.row sz k h l)=>match maxes a ((zrW y).map (·.up 1)) h with
    |some (H,a')=>match a'.bx[b]? with
     |some (.row sz' k' h' l')=>if Nat.blt H.s a'.nx&&leL a'.F h' H then some {a' with bx:=a'.bx.set b (.row sz' k' H l')} else none
     |_=>none
    |none=>none
   |_=>none
  |_,_=>none
 |_=>none
theorem ZV {a':ASt}(hr:R T ρ a σ)(h:ZW a i=some a'):∃ρ',More a.nx ρ a'.nx ρ'/\R T ρ' a' σ:=by
 unfold ZW at h;split at h
 ·split at h
  ·split at h
   ·split at h
    ·rename_i H E y;obtain ⟨ρ1,A,f⟩:=KE hr y;split at h
     ·rename_i B M L N q;split at h
      ·rename_i l;cases h;rw [qab] at l;have m:=dY l.1;have n:=aS f.F l.2;obtain ⟨J,j,w⟩:=f.bx.get q;cases w with
       |row g1 g2 g3 g4=>exact ⟨ρ1,A,⟨f.zero,f.pos,f.F,f.tm,f.bx.zqY j (.row m g2 g3 fun e u=>fP n (g4 e u))⟩⟩
      grind
     grind
    grind
   grind
  grind
 grind
def opX (x:Cx)(a:ASt)(i:I):Option (List Out):=match opL x.T a i with
 |some l=>some l
 |none=>match opC x a i with
  |some l=>some l
  |none=>match ZW a i with
   |some a'=>opC x a' i
   |none=>none
theorem zob {x:Cx}(hx:Pv Γ x a.nx ρ)(hr:R x.T ρ a σ)(h:opX x a i=some outs):zmt x.T Γ ρ a σ i outs:=by
 unfold opX at h;split at h;next l u=>cases h;exact (zod hr u).e
 split at h
 ·grind[zgU]
 split at h;next H q=>obtain ⟨ρ1,f,E⟩:=ZV hr q;obtain ⟨o,w,ρ2,y,j,A,F,m,B,n⟩:=zgU (hx.more f) E h;exact ⟨o,w,ρ2,y,j,f.trans A,F,m,B,n⟩
 grind
end
section
variable {a:ASt}{x:Cx}{i:Ins}{σ:St}
variable {T:Tab} {n m:Nat} {ρ ρ':Rho} {Γ:Nat->Gam}
def setSlot:List (Nat×AX)->Nat->AX->List (Nat×AX)
 |[],_,_=>[]
 |(k,x)::r,s,y=>if k==s then (k,y)::r else (k,x)::setSlot r s y
theorem Ar:∀{l:List (Nat×AX)} {m:List (Nat×X)} {s:Nat} {y:AX} {x:X},GT T n ρ l m->lk m s=some x->G T n ρ y x->GT T n ρ (setSlot l s y) m
 |_,_,_,_,_,.nil,_,_=>.nil
 |_,_,s,y,x,.cons (k:=k) g1 g2,h,hg=>by
  unfold lk at h;unfold setSlot;split at h;next hk=>cases h;rw [if_pos hk];exact .cons hg g2
  rename_i hk;rw [if_neg hk];exact .cons g1 (Ar g2 h hg)
def zij (d:Option Nat)(x:AX)(tm:List (Nat×AX)):List (Nat×AX):=match d with
 |none=>tm
 |some d=>(d,x)::tm
theorem TJ {d:Option Nat}{y:AX}{x:X}{l:List (Nat×AX)}{m:List (Nat×X)}(h:GT T n ρ l m)(hg:G T n ρ y x):GT T n ρ (zij d y l) (BM d x m):=by
 cases d with
 |none=>exact h
 |some d=>exact .cons hg h
abbrev zmV:=ASt×FP
variable {outs:List zmV}
def goE (x:Cx)(a:ASt)(i:Ins):Option (List zmV):=(opX x a i.op).map fun outs=>outs.map fun o=>({o.2.1 with tm:=zij i.dst o.1 o.2.1.tm},o.2.2)
def zic (a:ASt)(i:Ins):zmV:=({a with tm:=zij i.dst Tn a.tm},fp0)
def zpK (T:Tab)(Γ:Nat->Gam)(ρ:Rho)(a:ASt)(σ:St)(i:Ins)(outs:List zmV):Prop:=
 ∃q,q∈outs/\∃ρ' σ',More a.nx ρ q.1.nx ρ'/\R T ρ' q.1 σ'/\∃B,∀N,B<=N->Em.step (Γ N) i σ=some (σ',q.2)
theorem zha (hx:Pv Γ x a.nx ρ)(hr:R x.T ρ a σ)(h:goE x a i=some outs):∃q,q∈outs/\∃ρ' σ',More a.nx ρ q.1.nx ρ'/\R x.T ρ' q.1 σ'/\∃B,∀N,B<=N->rE (Γ N) i σ=some (σ',q.2):=by obtain ⟨A,l,rfl⟩:=qac.1 h;obtain ⟨o,j,ρ',y,bx,m,f,n,B,w⟩:=zob hx hr l;exact ⟨_,qah.2 ⟨o,j,rfl⟩,ρ',⟨BM i.dst y σ.tm,bx⟩,m,⟨f.zero,f.pos,f.F,TJ f.tm n,f.bx⟩,B,fun N u=>by grind[rE]⟩
theorem TG (hr:R T ρ a σ):R T ρ (zic a i).1 ⟨BM i.dst undefX σ.tm,σ.bx⟩:=⟨hr.zero,hr.pos,hr.F,TJ hr.tm (.x rfl),hr.bx⟩
def zh2 (x:Cx)(a:ASt)(i:Ins):Option (List zmV):=match i.g with
 |none=>goE x a i
 |some (s,want)=>match lkA a.tm s with
  |some (.b tf ff)=>
   match (match assume a (if want then tf else ff) with
    |some a'=>goE x {a' with tm:=setSlot a'.tm s (cb want)} i
    |none=>some []) with
   |none=>none
   |some l=>some (l++match assume a (if want then ff else tf) with
    |some a'=>[zic {a' with tm:=setSlot a'.tm s (cb (!want))} i]
    |none=>[])
  |some (.x (.v (.tuple _)))=>some [zic a i]
  |_=>none
theorem zdC (hx:Pv Γ x a.nx ρ)(hr:R x.T ρ a σ)(h:zh2 x a i=some outs):zpK x.T Γ ρ a σ i outs:=by
 unfold zh2 at h;split at h;next M=>obtain ⟨q,V,ρ',σ',E,Q,B,k3⟩:=zha hx hr h;exact ⟨q,V,ρ',σ',E,Q,B,fun N Y=>by grind[Em.step]⟩
 rename_i s f M;split at h
 ·rename_i W U O;obtain ⟨y,A,J⟩:=jr hr.tm O;cases J with
  |b V h2=>
   rename_i t;split at h;·cases h
   rename_i l w;cases h;by_cases hw:t=f
   ·subst hw;have L:aV a.nx ρ (if t then W else U):=by
     cases t with
     |true=>grind
     |false=>grind
    obtain ⟨j,H,m,S⟩:=kC hr L;rw [H] at w;have n:R x.T ρ {j with tm:=setSlot j.tm s (cb t)} σ:=⟨m.zero,m.pos,m.F,Ar m.tm A (Dx t),m.bx⟩;have P:Pv Γ x j.nx ρ:=by rw [S];exact hx
    obtain ⟨q,p1,ρ',σ',E,Q,B,k3⟩:=zha (a:={j with tm:=setSlot j.tm s (cb t)}) P n w;refine ⟨q,List.mem_append_left _ p1,ρ',σ',⟨by have h9:j.nx<=q.1.nx:=E.le;omega,fun u hu=>E.same u (by show u<j.nx;omega)⟩,Q,B,fun N Y=>?_⟩<;>simp_all[Em.step]
   have L:aV a.nx ρ (if f then U else W):=by
    cases f with
    |true=>grind
    |false=>grind
   obtain ⟨j,H,m,S⟩:=kC hr L;have Z:t=!f:=by cases t<;>cases f<;>first|rfl|grind
   have n:R x.T ρ {j with tm:=setSlot j.tm s (cb (!f))} σ:=⟨m.zero,m.pos,m.F,Ar m.tm A (Z▸Dx t),m.bx⟩;refine ⟨_,List.mem_append_right _ (by rw [H];exact qaa.2 rfl),ρ,_,⟨by show a.nx<=j.nx;omega,fun _ _=>rfl⟩,TG n,0,fun N _=>?_⟩;unfold Em.step;rw [M];dsimp only;rw [A];dsimp only;rw [if_neg (by grind)];rfl
 next v O=>cases h;obtain ⟨y,A,J⟩:=jr hr.tm O;cases J;refine ⟨_,qaa.2 rfl,ρ,_,.refl ..,TG hr,0,fun N _=>?_⟩;unfold Em.step;rw [M];dsimp only;rw [A];rfl
 grind
abbrev zt8:=ASt×List FP
def MX (x:Cx):List Ins->ASt->Option (List zt8)
 |[],a=>some [(a,[])]
 |i::r,a=>match zh2 x a i with
  |none=>none
  |some outs=>(qM (outs.map fun q=>(MX x r q.1).map fun l=>l.map fun w=>((w.1,q.2::w.2):zt8))).map List.flatten
theorem MW {x:Cx}:∀{l:List Ins} {ρ:Rho} {a:ASt} {σ:St} {outs:List zt8},Pv Γ x a.nx ρ->R x.T ρ a σ->MX x l a=some outs->
  ∃q,q∈outs/\∃ρ' σ',More a.nx ρ q.1.nx ρ'/\R x.T ρ' q.1 σ'/\∃B,∀N,B<=N->steps (Γ N) l σ=some (σ',q.2)
 |[],ρ,a,σ,outs,hx,hr,h=>by simp [MX] at h;subst h;exact ⟨_,qaa.2 rfl,ρ,σ,.refl ..,hr,0,fun N _=>rfl⟩
 |i::r,ρ,a,σ,outs,hx,hr,h=>by
  unfold MX at h;split at h;·cases h
  rename_i os ho;obtain ⟨ls,hls,rfl⟩:=qac.1 h;obtain ⟨q,hq,ρ1,σ1,k1,k2,B1,k3⟩:=zdC hx hr ho;obtain ⟨l,hl,hlm⟩:=ig hls hq;obtain ⟨l',hl',rfl⟩:=qac.1 hl;obtain ⟨w,hw,ρ2,σ2,p1,p2,B2,p3⟩:=MW (hx.more k1) k2 hl';refine ⟨_,List.mem_flatten.2 ⟨_,hlm,qah.2 ⟨w,hw,rfl⟩⟩,ρ2,σ2,k1.trans p1,p2,max B1 B2,fun N hN=>?_⟩
  grind[steps]
def keepA (live:List Nat)(tm:List (Nat×AX)):List (Nat×AX):=live.filterMap fun k=>(lkA tm k).map fun x=>(k,x)
theorem Us {l:List (Nat×AX)}{m:List (Nat×X)}(h:GT T n ρ l m):∀(live:List Nat),GT T n ρ (keepA live l) (keep live m)
 |[]=>.nil
 |k::r=>by
  have ih:=Us h r;unfold keepA keep at ih ⊢;cases hl:lkA l k with
  |none=>grind[uS]
  |some y=>obtain ⟨x,hx,hg⟩:=jr h hl;rw [List.filterMap_cons_some (b:=(k,y)) (by grind),List.filterMap_cons_some (b:=(k,x)) (by grind)];exact .cons hg ih
def Yp (l:Lin)(acc:Nat):Nat:=Nat.lor acc (Nat.shiftLeft 1 l.s)
def ztp:List Fact->Nat->Nat
 |[],acc=>acc
 |f::r,acc=>ztp r (Nat.lor (Nat.lor acc (Nat.shiftLeft 1 f.x)) (Nat.shiftLeft 1 f.y))
mutual
def zqz:AX->Nat->Nat
 |.i _ l,acc=>Yp l acc
 |.b t u,acc=>ztp t (ztp u acc)
 |.s l,acc=>Yp l acc
 |.sl _ _ _ h l,acc=>Yp h (Yp l acc)
 |.bs _ o l,acc=>Yp o (Yp l acc)
 |.ptr _ e _,acc=>Yp e acc
 |.dp cs,acc=>XV cs acc
 |.fn _ cs,acc=>XV cs acc
 |.agg cs,acc=>XV cs acc
 |.tup cs,acc=>XV cs acc
 |.el _ h,acc=>Yp h acc
 |.de _ h,acc=>Yp h acc
 |_,acc=>acc
def XV:List AX->Nat->Nat
 |[],acc=>acc
 |a::r,acc=>XV r (zqz a acc)
end
def zlE:List ABx->Nat->Nat
 |[],acc=>acc
 |.var cs::r,acc=>zlE r (XV cs acc)
 |.row _ _ h l::r,acc=>zlE r (Yp h (Yp l acc))
 |.loop _ _ tm _ _ _::r,acc=>zlE r (tm.foldl (fun c q=>zqz q.2 c) acc)
 |.map es::r,acc=>zlE r (es.foldl (fun c q=>zqz q.2 c) acc)
 |.dead::r,acc=>zlE r acc
 |.el _ h::r,acc=>zlE r (Yp h acc)
def through (u:Nat)(F:List Fact):List Fact:=F.flatMap fun f=>if u.testBit f.x&&!u.testBit f.y then
 F.filterMap fun g=>if Nat.beq f.y g.x&&u.testBit g.y&&!Nat.beq f.x g.y then some ⟨f.x,g.y,f.c+g.c⟩ else none else []
theorem VG {n u:Nat}{F:List Fact}(h:aV n ρ F):aV n ρ (through u F):=fun k a=>by
 obtain ⟨f,q,a⟩:=List.mem_flatMap.1 a;split at a
 ·obtain ⟨g,w,a⟩:=List.mem_filterMap.1 a;split at a;next j=>simp only [qab] at j;have e:=qaj j.1.1;cases a;obtain ⟨l,y,A⟩:=h f q;obtain ⟨B,m,E⟩:=h g w;refine ⟨l,m,?_⟩<;>grind
  grind
 grind
def prune (base:Nat)(a:ASt):ASt:=
 let u:=zlE a.bx (a.tm.foldl (fun c q=>zqz q.2 c) base)
 {a with F:=(a.F.filter fun f=>u.testBit f.x&&u.testBit f.y)++through u a.F}
theorem zec {base:Nat}(hr:R T ρ a σ):R T ρ (prune base a) σ:=⟨hr.zero,hr.pos,fun f h=>(qaO.1 h).elim (fun h=>hr.F f (List.mem_filter.1 h).1) (fun h=>VG hr.F f h),hr.tm,hr.bx⟩
end
section
variable {a:ABx}{x:Bx}
variable {T:Tab} {n m:Nat} {ρ ρ':Rho} {Γ:Nat->Gam}
def tight (F:List Fact):AX->Option (Option Nat)
 |.x (.sl true sz [])=>some (some sz)
 |.sl (some false) _ _ _ _=>some none
 |.sl (some true) sz _ _ l=>if leL F l (.k 0) then some (some sz) else if leL F (.k 1) l then some none else none
 |.sl none _ _ _ l=>if leL F (.k 1) l then some none else none
 |_=>some none
theorem Tv {F:List Fact}(h0:ρ 0=0)(hF:aV n ρ F){y:AX}{x:X}(hg:G T n ρ y x):(∀sz,tight F y=some (some sz)->x=.sl true sz [])/\(tight F y=some none->∀sz,x≠.sl true sz []):=by
 have f:∀{l:Lin} {es:qaV},(es.length:Int)=l.v ρ->leL F (.k 1) l=true->es≠[]:=fun {l es} j a e=>by have:=aS hF a<;>grind[Lin.k_v]
 unfold tight;split;·cases hg<;>grind
 ·cases hg<;>grind[Gi]
 ·rename_i sz k q l;cases hg with
  |sl q1 q2 q3 q4 q5=>
   have:=q3;unfold Gi at this;subst this;split;next m=>have c:=aS hF m;rw [Lin.k_v h0] at c;rename_i es;have:es=[]:=qaL (by omega)<;>grind
   grind
 ·cases hg<;>grind
 rename_i j a u w;refine ⟨fun sz h=>(by cases h),fun _ sz e=>?_⟩;subst e;cases hg with
 |x _=>grind
 |sl q1 q2 q3 q4 q5=>
  rename_i t k q l;cases t with
  |none=>grind
  |some b=>cases b with
   |false=>grind
   |true=>grind
def Ll (sz:Nat):ABx:=.row sz 0 (.k 0) (.k 0)
theorem Gq (h0:ρ 0=0)(hn:0<n)(sz:Nat):GB T n ρ (Ll sz) (.row sz []):=.row hn hn (by grind[Lin.k_v]) (fun e a=>by grind)
mutual
def AX.within (F:List Fact)(i:Nat)(rl:Lin):AX->Bool
 |.bs j o l=>if Nat.beq j i then (match Yg o l with|some e=>leL F e rl|none=>false) else true
 |.agg cs=>jw F i rl cs
 |.tup cs=>jw F i rl cs
 |.fn _ cs=>jw F i rl cs
 |_=>true
def jw (F:List Fact)(i:Nat)(rl:Lin):List AX->Bool
 |[]=>true
 |x::r=>x.within F i rl&&jw F i rl r
end
mutual
def AX.frz (i sz k:Nat)(h:Lin):AX->AX
 |.bs j o l=>if j==i then .sl (some false) sz k h l else .bs j o l
 |.agg cs=>.agg (Xz i sz k h cs)
 |.tup cs=>.tup (Xz i sz k h cs)
 |.fn g cs=>.fn g (Xz i sz k h cs)
 |.i k l=>.i k l
 |.b t u=>.b t u
 |.s l=>.s l
 |.x x=>.x x
 |.sl t sz k h l=>.sl t sz k h l
 |.ptr i e o=>.ptr i e o
 |.dp cs=>.dp cs
 |.yl i=>.yl i
 |.mp i=>.mp i
 |.vV=>.vV
 |.el k h=>.el k h
 |.de k h=>.de k h
def Xz (i sz k:Nat)(h:Lin):List AX->List AX
 |[]=>[]
 |x::r=>x.frz i sz k h::Xz i sz k h r
end
mutual
theorem Ec (i c:Nat):∀(x:X),x.refs=[]->x.within i c=true
 |.bs _ _ _,h=>by grind[X.refs]
 |.agg cs,h=>iW i c cs h
 |.tup cs,h=>iW i c cs h
 |.fn _ cs,h=>iW i c cs h
 |.v _,_=>rfl
 |.sl _ _ _,_=>rfl
 |.ptr _ _ _,_=>rfl
 |.dp _,_=>rfl
 |.yl _,_=>rfl
 |.mp _,_=>rfl
 |.ifc,_=>rfl
theorem iW (i c:Nat):∀(xs:List X),bT xs=[]->iG i c xs=true
 |[],_=>rfl
 |x::r,h=>by have h:x.refs++bT r=[]:=h;obtain ⟨h1,h2⟩:=List.append_eq_nil_iff.1 h;show (x.within i c&&iG i c r)=true;rw [Ec i c x h1,iW i c r h2];rfl
end
mutual
theorem KX (i sz:Nat)(es:qaV):∀(x:X),x.refs=[]->x.frz i sz es=x
 |.bs _ _ _,h=>by grind[X.refs]
 |.agg cs,h=>by show X.agg (UK i sz es cs)=_;rw [uj i sz es cs h]
 |.tup cs,h=>by show X.tup (UK i sz es cs)=_;rw [uj i sz es cs h]
 |.fn g cs,h=>by show X.fn g (UK i sz es cs)=_;rw [uj i sz es cs h]
 |.v _,_=>rfl
 |.sl _ _ _,_=>rfl
 |.ptr _ _ _,_=>rfl
 |.dp _,_=>rfl
 |.yl _,_=>rfl
 |.mp _,_=>rfl
 |.ifc,_=>rfl
theorem uj (i sz:Nat)(es:qaV):∀(xs:List X),bT xs=[]->UK i sz es xs=xs
 |[],_=>rfl
 |x::r,h=>by have h:x.refs++bT r=[]:=h;obtain ⟨h1,h2⟩:=List.append_eq_nil_iff.1 h;show x.frz i sz es::UK i sz es r=_;rw [KX i sz es x h1,uj i sz es r h2]
end
section
variable {F:List Fact} {i sz k:Nat} {hh rl:Lin} {es:qaV}
mutual
theorem G.within (h0:ρ 0=0)(hF:aV n ρ F)(hl:(es.length:Int)=rl.v ρ):∀{a:AX} {x:X},G T n ρ a x->a.within F i rl=true->x.within i es.length=true
 |.bs j o l,.bs _ o' l',.bs q1 q2 q3 q4,h=>by
  unfold AX.within at h;unfold X.within;split at h
  ·rename_i hj;have hj:=qaj hj;subst hj;split at h
   ·rename_i e he;have c:=aS hF h;rw [qN h0 he] at c
    grind
   grind
  simp_all
 |_,_,.agg q,h=>GL.within h0 hF hl q h
 |_,_,.tup q,h=>GL.within h0 hF hl q h
 |_,_,.fn q,h=>GL.within h0 hF hl q h
 |_,_,.x q,_=>Ec _ _ _ q
 |_,_,.i _ _,_=>rfl
 |_,_,.b _ _,_=>rfl
 |_,_,.s _ _,_=>rfl
 |_,_,.sl _ _ _ _ _,_=>rfl
 |_,_,.ptr _ _,_=>rfl
 |_,_,.dp _,_=>rfl
 |_,_,.yl,_=>rfl
 |_,_,.mp,_=>rfl
 |_,_,.ifc,_=>rfl
 |_,_,.I9,_=>rfl
 |_,_,.el _ h,_=>iW _ _ _ (qU h)
 |_,_,.de _ _,_=>rfl
theorem GL.within (h0:ρ 0=0)(hF:aV n ρ F)(hl:(es.length:Int)=rl.v ρ):∀{a:List AX} {x:List X},GL T n ρ a x->jw F i rl a=true->iG i es.length x=true
 |_,_,.nil,_=>rfl
 |a::l,x::m,.cons g1 g2,h=>by have h:(a.within F i rl&&jw F i rl l)=true:=h;rw [qab] at h;show (x.within i es.length&&iG i es.length m)=true;rw [G.within h0 hF hl g1 h.1,GL.within h0 hF hl g2 h.2];rfl
end
mutual
theorem G.frz (h0:ρ 0=0)(hF:aV n ρ F)(hk:hh.s<n)(hl:(es.length:Int)=rl.v ρ)(hd:∀e,e∈es->D T (hh.v ρ) k e):∀{a:AX} {x:X},G T n ρ a x->a.within F i rl=true->G T n ρ (a.frz i sz k hh) (x.frz i sz es)
 |.bs j o l,.bs _ o' l',.bs q1 q2 q3 q4,h=>by
  have hw:=G.within (T:=T) (i:=i) h0 hF hl (G.bs q1 q2 q3 q4) h;unfold X.within at hw;unfold AX.frz X.frz;cases hj:(j==i) with
  |true=>
   rw [hj] at hw;simp at hw;simp;refine .sl hk q2 rfl ?_ fun e he=>hd e (List.mem_of_mem_drop (List.mem_of_mem_take he))
   grind
  |false=>simp;exact .bs q1 q2 q3 q4
 |_,_,.agg q,h=>.agg (GL.frz h0 hF hk hl hd q h)
 |_,_,.tup q,h=>.tup (GL.frz h0 hF hk hl hd q h)
 |_,_,.fn q,h=>.fn (GL.frz h0 hF hk hl hd q h)
 |.x y,_,.x q,_=>by show G T n ρ (.x y) (X.frz i sz es y);rw [KX i sz es y q];exact .x q
 |_,_,.i q1 q2,_=>.i q1 q2
 |_,_,.b q1 q2,_=>.b q1 q2
 |_,_,.s q1 q2,_=>.s q1 q2
 |_,_,.sl q1 q2 q3 q4 q5,_=>.sl q1 q2 q3 q4 q5
 |_,_,.ptr q1 q2,_=>.ptr q1 q2
 |_,_,.dp q,_=>.dp q
 |_,_,.yl,_=>.yl
 |_,_,.mp,_=>.mp
 |_,_,.ifc,_=>.ifc
 |_,_,.I9,_=>.I9
 |_,_,.el (xs:=xs) q1 q2,_=>by show G T n ρ _ (X.frz i sz es (.agg xs));rw [KX i sz es (.agg xs) (qU q2)];exact .el q1 q2
 |_,_,.de q1 q2,_=>.de q1 q2
theorem GL.frz (h0:ρ 0=0)(hF:aV n ρ F)(hk:hh.s<n)(hl:(es.length:Int)=rl.v ρ)(hd:∀e,e∈es->D T (hh.v ρ) k e):∀{a:List AX} {x:List X},GL T n ρ a x->jw F i rl a=true->GL T n ρ (Xz i sz k hh a) (UK i sz es x)
 |_,_,.nil,_=>.nil
 |a::l,x::m,.cons g1 g2,h=>by have h:(a.within F i rl&&jw F i rl l)=true:=h;rw [qab] at h;exact .cons (G.frz h0 hF hk hl hd g1 h.1) (GL.frz h0 hF hk hl hd g2 h.2)
end
def zld (i sz k:Nat)(h:Lin)(tm:List (Nat×AX)):List (Nat×AX):=tm.map fun p=>(p.1,p.2.frz i sz k h)
theorem GT.frz (h0:ρ 0=0)(hF:aV n ρ F)(hk:hh.s<n)(hl:(es.length:Int)=rl.v ρ)(hd:∀e,e∈es->D T (hh.v ρ) k e):∀{a:List (Nat×AX)} {x:List (Nat×X)},GT T n ρ a x->jw F i rl (a.map (·.2))=true->GT T n ρ (zld i sz k hh a) (zmQ i sz es x)
 |_,_,.nil,_=>.nil
 |(q,a)::l,_,.cons g1 g2,h=>by have h:(a.within F i rl&&jw F i rl (l.map (·.2)))=true:=h;rw [qab] at h;exact .cons (G.frz h0 hF hk hl hd g1 h.1) (GT.frz h0 hF hk hl hd g2 h.2)
def ABx.within (F:List Fact)(i:Nat)(rl:Lin):ABx->Bool
 |.var cs=>jw F i rl cs
 |.loop _ _ tm _ _ _=>jw F i rl (tm.map (·.2))
 |_=>true
def ABx.frz (i sz k:Nat)(h:Lin):ABx->ABx
 |.var cs=>.var (Xz i sz k h cs)
 |.loop st p tm ps a b=>.loop st p (zld i sz k h tm) ps a b
 |.row s k h l=>.row s k h l
 |.map es=>.map es
 |.dead=>.dead
 |.el k h=>.el k h
theorem GB.within (h0:ρ 0=0)(hF:aV n ρ F)(hl:(es.length:Int)=rl.v ρ)(g:GB T n ρ a x)(h:a.within F i rl=true):x.within i es.length=true:=by
 cases g with
 |var q=>exact q.within h0 hF hl h
 |loop q=>exact q.vals.within h0 hF hl h
 |row _ _ _ _=>rfl
 |map _=>rfl
 |dead=>rfl
 |el _ q=>exact iW _ _ _ (qU q)
theorem GB.frz (h0:ρ 0=0)(hF:aV n ρ F)(hk:hh.s<n)(hl:(es.length:Int)=rl.v ρ)(hd:∀e,e∈es->D T (hh.v ρ) k e)(g:GB T n ρ a x)(h:a.within F i rl=true):GB T n ρ (a.frz i sz k hh) (x.frz i sz es):=by
 cases g with
 |var q=>exact .var (q.frz h0 hF hk hl hd h)
 |loop q=>exact .loop (q.frz h0 hF hk hl hd h)
 |row q1 q2 q3 q4=>exact .row q1 q2 q3 q4
 |map q=>exact .map q
 |dead=>exact .dead
 |el q1 q2=>rename_i f;show GB T n ρ _ (Bx.var (UK i sz es f));rw [uj i sz es f (qU q2)];exact .el q1 q2
theorem GBs.within (h0:ρ 0=0)(hF:aV n ρ F)(hl:(es.length:Int)=rl.v ρ):∀{a:List ABx} {x:List Bx},GBs T n ρ a x->a.all (ABx.within F i rl)=true->x.all (Bx.within i es.length)=true
 |_,_,.nil,_=>rfl
 |_,_,.cons g1 g2,h=>by rw [List.all_cons,qab] at h;rw [List.all_cons,g1.within h0 hF hl h.1,g2.within h0 hF hl h.2];rfl
theorem GBs.frz (h0:ρ 0=0)(hF:aV n ρ F)(hk:hh.s<n)(hl:(es.length:Int)=rl.v ρ)(hd:∀e,e∈es->D T (hh.v ρ) k e):∀{a:List ABx} {x:List Bx},GBs T n ρ a x->a.all (ABx.within F i rl)=true->GBs T n ρ (a.map (ABx.frz i sz k hh)) (x.map (Bx.frz i sz es))
 |_,_,.nil,_=>.nil
 |_,_,.cons g1 g2,h=>by rw [List.all_cons,qab] at h;exact .cons (g1.frz h0 hF hk hl hd h.1) (g2.frz h0 hF hk hl hd h.2)
end
def Bh (i:Nat)(a:ASt):Option ASt:=match a.bx[i]? with
 |some (.row sz k h rl)=>if jw a.F i rl (a.tm.map (·.2))&&a.bx.all (ABx.within a.F i rl) then
   some {a with tm:=zld i sz k h a.tm,bx:=(a.bx.map (ABx.frz i sz k h)).set i .dead} else none
 |_=>none
theorem Bf {a a':ASt}{σ:St}{i:Nat}(hr:R T ρ a σ)(h:Bh i a=some a'):∃σ',Em.freeze i σ=some σ'/\R T ρ a' σ'/\a'.nx=a.nx:=by
 unfold Bh at h;split at h
 ·rename_i n k u w q;split at h
  ·rename_i f;cases h;rw [qab] at f;obtain ⟨b,j,l⟩:=hr.bx.get q;cases l with
   |row w1 w2 w3 w4=>rename_i m;refine ⟨⟨zmQ i n m σ.tm,(σ.bx.map (Bx.frz i n m)).set i .dead⟩,?_,⟨hr.zero,hr.pos,hr.F,hr.tm.frz hr.zero hr.F w1 w3 w4 f.1,(hr.bx.frz hr.zero hr.F w1 w3 w4 f.2).set i .dead⟩,rfl⟩;unfold Em.freeze;rw [j];dsimp only;rw [if_pos];unfold TP;rw [hr.tm.vals.within hr.zero hr.F w3 f.1,hr.bx.within hr.zero hr.F w3 f.2];rfl
  grind
 grind
def qH:List Nat->ASt->Option ASt
 |[],a=>some a
 |i::r,a=>match a.bx[i]? with
  |some (.row _ _ _ _)=>(Bh i a).bind (qH r)
  |some _=>qH r a
  |none=>none
theorem gZ:∀{l:List Nat} {a a':ASt} {σ:St},R T ρ a σ->qH l a=some a'->∃σ',Em.freezes l σ=some σ'/\R T ρ a' σ'/\a'.nx=a.nx
 |[],a,a',σ,hr,h=>by simp [qH] at h;subst h;exact ⟨σ,rfl,hr,rfl⟩
 |i::r,a,a',σ,hr,h=>by
  unfold qH at h;unfold Em.freezes;split at h
  ·rename_i hb;obtain ⟨b,hb',hgb⟩:=hr.bx.get hb;cases hgb with
   |row _ _ _ _=>
    rw [hb'];dsimp only;cases hf:Bh i a with
    |none=>grind
    |some a1=>rw [hf] at h;obtain ⟨σ1,h1,h2,h3⟩:=Bf hr hf;obtain ⟨σ2,h4,h5,h6⟩:=gZ (l:=r) h2 h<;>grind
  ·rename_i y hne hb;obtain ⟨b,hb',hgb⟩:=hr.bx.get hb;rw [hb'];cases hgb with
   |row _ _ _ _=>grind
   |var _=>exact gZ (l:=r) hr h
   |loop _=>exact gZ (l:=r) hr h
   |map _=>exact gZ (l:=r) hr h
   |dead=>exact gZ (l:=r) hr h
   |el _ _=>exact gZ (l:=r) hr h
  grind
end
section
variable {a a':ASt}{σ:St}{x:X}
variable {T:Tab} {n m:Nat} {ρ ρ':Rho} {Γ:Nat->Gam}
mutual
def AX.OI (i:Nat):AX->Bool
 |.ptr j e _=>if j==i then zcH e else true
 |.agg cs=>um i cs
 |.tup cs=>um i cs
 |.fn _ cs=>um i cs
 |_=>true
def um (i:Nat):List AX->Bool
 |[]=>true
 |x::r=>x.OI i&&um i r
end
mutual
def AX.fix (i:Nat)(vs:List AX):AX->AX
 |.ptr j e o=>if j==i then .dp (vs.drop o) else .ptr j e o
 |.agg cs=>.agg (XA i vs cs)
 |.tup cs=>.tup (XA i vs cs)
 |.fn g cs=>.fn g (XA i vs cs)
 |.i k l=>.i k l
 |.b t u=>.b t u
 |.s l=>.s l
 |.x x=>.x x
 |.sl t sz k h l=>.sl t sz k h l
 |.bs i o l=>.bs i o l
 |.dp cs=>.dp cs
 |.yl i=>.yl i
 |.mp i=>.mp i
 |.vV=>.vV
 |.el k h=>.el k h
 |.de k h=>.de k h
def XA (i:Nat)(vs:List AX):List AX->List AX
 |[]=>[]
 |x::r=>x.fix i vs::XA i vs r
end
mutual
theorem Ld (i:Nat)(vs:List X):∀(x:X),x.refs=[]->x.fix i vs=x
 |.ptr _ _ _,h=>by grind[X.refs]
 |.agg cs,h=>by show X.agg (UM i vs cs)=_;rw [uo i vs cs h]
 |.tup cs,h=>by show X.tup (UM i vs cs)=_;rw [uo i vs cs h]
 |.fn g cs,h=>by show X.fn g (UM i vs cs)=_;rw [uo i vs cs h]
 |.v _,_=>rfl
 |.sl _ _ _,_=>rfl
 |.bs _ _ _,_=>rfl
 |.dp _,_=>rfl
 |.yl _,_=>rfl
 |.mp _,_=>rfl
 |.ifc,_=>rfl
theorem uo (i:Nat)(vs:List X):∀(xs:List X),bT xs=[]->UM i vs xs=xs
 |[],_=>rfl
 |x::r,h=>by have h:x.refs++bT r=[]:=h;obtain ⟨h1,h2⟩:=List.append_eq_nil_iff.1 h;show x.fix i vs::UM i vs r=_;rw [Ld i vs x h1,uo i vs r h2]
end
section
variable {i:Nat} {vs:List AX} {xv:List X}
mutual
theorem G.fix (h0:ρ 0=0)(hv:GL T n ρ vs xv):∀{a:AX} {x:X},G T n ρ a x->a.OI i=true->G T n ρ (a.fix i vs) (x.fix i xv)
 |.ptr j e o,.ptr _ e' _,.ptr q1 q2,h=>by
  unfold AX.OI at h;unfold AX.fix X.fix;cases hj:(j==i) with
  |true=>
   rw [hj] at h;simp only [if_true] at h ⊢;have:=uf h h0;have:e'=0:=by omega
   subst this;simp;exact .dp (hv.drop o)
  |false=>simp;exact .ptr q1 q2
 |_,_,.agg q,h=>.agg (GL.fix h0 hv q h)
 |_,_,.tup q,h=>.tup (GL.fix h0 hv q h)
 |_,_,.fn q,h=>.fn (GL.fix h0 hv q h)
 |.x y,_,.x q,_=>by show G T n ρ (.x y) (X.fix i xv y);rw [Ld i xv y q];exact .x q
 |_,_,.i q1 q2,_=>.i q1 q2
 |_,_,.b q1 q2,_=>.b q1 q2
 |_,_,.s q1 q2,_=>.s q1 q2
 |_,_,.sl q1 q2 q3 q4 q5,_=>.sl q1 q2 q3 q4 q5
 |_,_,.bs q1 q2 q3 q4,_=>.bs q1 q2 q3 q4
 |_,_,.dp q,_=>.dp q
 |_,_,.yl,_=>.yl
 |_,_,.mp,_=>.mp
 |_,_,.ifc,_=>.ifc
 |_,_,.I9,_=>.I9
 |_,_,.el (xs:=xs) q1 q2,_=>by show G T n ρ _ (X.fix i xv (.agg xs));rw [Ld i xv (.agg xs) (qU q2)];exact .el q1 q2
 |_,_,.de q1 q2,_=>.de q1 q2
theorem GL.fix (h0:ρ 0=0)(hv:GL T n ρ vs xv):∀{a:List AX} {x:List X},GL T n ρ a x->um i a=true->GL T n ρ (XA i vs a) (UM i xv x)
 |_,_,.nil,_=>.nil
 |a::l,x::m,.cons g1 g2,h=>by have h:(a.OI i&&um i l)=true:=h;rw [qab] at h;exact .cons (G.fix h0 hv g1 h.1) (GL.fix h0 hv g2 h.2)
end
def zlh (i:Nat)(vs:List AX)(tm:List (Nat×AX)):List (Nat×AX):=tm.map fun p=>(p.1,p.2.fix i vs)
theorem GT.fix (h0:ρ 0=0)(hv:GL T n ρ vs xv):∀{a:List (Nat×AX)} {x:List (Nat×X)},GT T n ρ a x->um i (a.map (·.2))=true->GT T n ρ (zlh i vs a) (zoO i xv x)
 |_,_,.nil,_=>.nil
 |(q,a)::l,_,.cons g1 g2,h=>by have h:(a.OI i&&um i (l.map (·.2)))=true:=h;rw [qab] at h;exact .cons (G.fix h0 hv g1 h.1) (GT.fix h0 hv g2 h.2)
def ABx.OI (i:Nat):ABx->Bool
 |.var cs=>um i cs
 |.loop _ _ tm _ _ _=>um i (tm.map (·.2))
 |_=>true
def ABx.fix (i:Nat)(vs:List AX):ABx->ABx
 |.var cs=>.var (XA i vs cs)
 |.loop st p tm ps a b=>.loop st p (zlh i vs tm) ps a b
 |.row s k h l=>.row s k h l
 |.map es=>.map es
 |.dead=>.dead
 |.el k h=>.el k h
theorem GBs.fix (h0:ρ 0=0)(hv:GL T n ρ vs xv):∀{a:List ABx} {x:List Bx},GBs T n ρ a x->a.all (ABx.OI i)=true->GBs T n ρ (a.map (ABx.fix i vs)) (x.map (Bx.fix i xv))
 |_,_,.nil,_=>.nil
 |_,_,.cons g1 g2,h=>by
  rw [List.all_cons,qab] at h;refine .cons ?_ (GBs.fix h0 hv g2 h.2);cases g1 with
  |var q=>exact .var (GL.fix h0 hv q h.1)
  |loop q=>exact .loop (GT.fix h0 hv q h.1)
  |row q1 q2 q3 q4=>exact .row q1 q2 q3 q4
  |map q=>exact .map q
  |dead=>exact .dead
  |el q1 q2=>rename_i xs;show GB T n ρ _ (Bx.var (UM i xv xs));rw [uo i xv xs (qU q2)];exact .el q1 q2
end
def KZ (i:Nat)(a:ASt):Option ASt:=match a.bx[i]? with
 |some (.var vs)=>if (qX vs).isEmpty then
   (if um i (a.tm.map (·.2))&&a.bx.all (ABx.OI i) then some {a with tm:=zlh i vs a.tm,bx:=(a.bx.map (ABx.fix i vs)).set i .dead} else none)
   else some a
 |_=>none
theorem RP {i:Nat}(hr:R T ρ a σ)(h:KZ i a=some a'):∃σ',Bd i σ=some σ'/\R T ρ a' σ'/\a'.nx=a.nx:=by
 unfold KZ at h;split at h
 ·rename_i u q;obtain ⟨b,f,m⟩:=hr.bx.get q;cases m with
  |var hv=>
   rename_i n;split at h
   ·rename_i l;split at h
    ·rename_i j;cases h;rw [qab] at j;refine ⟨⟨zoO i n σ.tm,(σ.bx.map (Bx.fix i n)).set i .dead⟩,?_,⟨hr.zero,hr.pos,hr.F,GT.fix hr.zero hv hr.tm j.1,(GBs.fix hr.zero hv hr.bx j.2).set i .dead⟩,rfl⟩;unfold Bd;rw [f]
     (try dsimp only)
     rw [hv.refs,if_pos l]
    grind
   rename_i l;cases h;refine ⟨σ,?_,hr,rfl⟩;unfold Bd;rw [f]
   (try dsimp only)
   rw [hv.refs,if_neg l]
 grind
def isRef:AX->Bool
 |.ptr _ _ _=>true
 |_=>false
def zrP:AX->Bool
 |.bs _ _ _=>true
 |_=>false
theorem Qw {a:AX}(hg:G T n ρ a x)(h:isRef a=false):∀i e o,x≠.ptr i e o:=fun i e o f=>by
 subst f;cases hg with
 |x q=>grind[X.refs]
 |ptr _ _=>cases h
theorem zgX {a:AX}(hg:G T n ρ a x)(h:zrP a=false):∀i e o,x≠.bs i e o:=fun i e o f=>by
 subst f;cases hg with
 |x q=>grind[X.refs]
 |bs _ _ _ _=>cases h
def zbh (a:ASt):Gh->Option ASt
 |.thaw s none=>match lkA a.tm s with
  |none=>some a
  |some y=>match tight a.F y with
   |some (some sz)=>some {a with tm:=(s,.bs a.bx.length (.k 0) (.k 0))::a.tm,bx:=a.bx++[Ll sz]}
   |some none=>some a
   |none=>none
 |.thaw s (some o)=>match lkA a.tm s with
  |none=>some a
  |some (.ptr i e o')=>if zcH e then match a.bx[i]? with
   |some (.var cs)=>match cs[o'+o]? with
    |some y=>match tight a.F y with
     |some (some sz)=>some {a with bx:=(a.bx.set i (.var (cs.set (o'+o) (.bs a.bx.length (.k 0) (.k 0)))))++[Ll sz]}
     |some none=>some a
     |none=>none
    |none=>some a
   |some (.el _ _)=>none
   |some _=>some a
   |none=>none
   else none
  |some y=>if isRef y then none else some a
 |.frz s none=>match lkA a.tm s with
  |some (.bs i _ _)=>Bh i a
  |some y=>if zrP y then none else some a
  |none=>none
 |.frz s (some o)=>match lkA a.tm s with
  |some (.ptr i e o')=>if zcH e then match a.bx[i]? with
   |some (.var cs)=>match cs[o'+o]? with
    |some (.bs j _ _)=>Bh j a
    |some y=>if zrP y then none else some a
    |none=>none
   |_=>none
   else none
  |_=>none
 |.zcK s=>match lkA a.tm s with
  |some (.ptr i _ _)=>match a.bx[i]? with
   |some (.var cs)=>qH (J7 cs) a
   |some _=>some a
   |none=>none
  |some y=>if isRef y then none else qH y.rows a
  |none=>some a
 |.F6 s=>match lkA a.tm s with
  |some (.ptr i _ _)=>KZ i a
  |some y=>if isRef y then none else some a
  |none=>some a
theorem GL.set:∀{l:List AX} {m:List X} {y:AX} {x:X} (i:Nat),GL T n ρ l m->G T n ρ y x->GL T n ρ (l.set i y) (m.set i x)
 |_,_,_,_,_,.nil,_=>.nil
 |_,_,_,_,0,.cons _ h,g=>.cons g h
 |_,_,_,_,i+1,.cons h1 h,g=>.cons h1 (h.set i g)
theorem GL.get_none {l:List AX}{m:List X}{i:Nat}(h:GL T n ρ l m)(e:l[i]?=none):m[i]?=none:=by rw [List.getElem?_eq_none_iff] at e ⊢;rw [<-h.len]<;>grind
theorem zbg {g:Gh}(hr:R T ρ a σ)(h:zbh a g=some a'):∃σ',ghost σ g=some σ'/\R T ρ a' σ'/\a'.nx=a.nx:=by
 have hl:=hr.bx.len;have M:G T a.nx ρ (.bs a.bx.length (.k 0) (.k 0)) (.bs σ.bx.length 0 0):=by rw [hl];exact .bs hr.pos hr.pos (by rw [Lin.k_v hr.zero];rfl) (by rw [Lin.k_v hr.zero];rfl)
 unfold zbh at h;split at h
 ·rename_i s;unfold ghost
  (try dsimp only)
  split at h;next e=>cases h;rw [uS hr.tm e]<;>simp_all
  rename_i y e;obtain ⟨x,u,f⟩:=jr hr.tm e;obtain ⟨U,t2⟩:=Tv hr.zero hr.F f;rw [u];split at h;next N Q=>cases h;have:=U N Q;subst this;exact ⟨_,rfl,⟨hr.zero,hr.pos,hr.F,.cons M hr.tm,hr.bx.snoc (Gq hr.zero hr.pos N)⟩,rfl⟩
  ·grind
  grind
 ·rename_i s o;unfold ghost
  (try dsimp only)
  split at h;next e=>cases h;rw [uS hr.tm e]<;>simp_all
  ·rename_i i O S e;obtain ⟨x,u,f⟩:=jr hr.tm e;cases f with
   |ptr q1 q2=>
    rename_i P;split at h
    ·rename_i hz;have h0:=uf hz hr.zero;have:P=0:=by omega
     subst this;simp only [u];split at h
     ·rename_i V B;obtain ⟨b,m,n⟩:=hr.bx.get B;cases n with
      |var hv=>
       rename_i xv;simp only [m];split at h
       ·rename_i y L;obtain ⟨z,J,A⟩:=hv.get L;obtain ⟨U,t2⟩:=Tv hr.zero hr.F A;rw [J];split at h;next N Q=>cases h;have:=U N Q;subst this;exact ⟨_,rfl,⟨hr.zero,hr.pos,hr.F,hr.tm,(hr.bx.set i (.var (hv.set _ M))).snoc (Gq hr.zero hr.pos N)⟩,rfl⟩
        ·grind
        grind
       rename_i L;cases h;rw [hv.get_none L]<;>simp_all
     ·cases h
     next b w W B=>cases h;obtain ⟨Y,m,n⟩:=hr.bx.get B;rw [m];cases n<;>simp_all
     grind
    grind
  rename_i y w e;obtain ⟨x,u,f⟩:=jr hr.tm e;split at h;·cases h
  rename_i H;cases h;have E:=Qw f (by grind);rw [u];refine ⟨σ,?_,hr,rfl⟩;split
  ·grind
  rfl
 ·rename_i s;unfold ghost
  (try dsimp only)
  split at h;next i o l e=>obtain ⟨x,u,f⟩:=jr hr.tm e;cases f<;>grind[Bf]
  ·rename_i y w e;obtain ⟨x,u,f⟩:=jr hr.tm e;split at h;·cases h
   rename_i H;cases h;have E:=zgX f (by grind);rw [u];refine ⟨σ,?_,hr,rfl⟩;split
   ·grind
   ·rfl
   grind
  grind
 ·rename_i s o;unfold ghost
  (try dsimp only)
  split at h
  ·rename_i i O S e;obtain ⟨x,u,f⟩:=jr hr.tm e;cases f with
   |ptr q1 q2=>
    rename_i P;split at h
    ·rename_i hz;have h0:=uf hz hr.zero;have:P=0:=by omega
     subst this;simp only [u];split at h
     ·rename_i V B;obtain ⟨b,m,n⟩:=hr.bx.get B;cases n with
      |var hv=>
       rename_i xv;simp only [m];split at h;next j o2 l2 L=>obtain ⟨z,J,A⟩:=hv.get L;cases A<;>grind[Bf]
       ·rename_i y w L;obtain ⟨z,J,A⟩:=hv.get L;split at h;·cases h
        rename_i H;cases h;have E:=zgX A (by grind);rw [J];refine ⟨σ,?_,hr,rfl⟩;split
        ·grind
        ·rfl
        grind
       grind
     grind
    grind
  grind
 ·rename_i s;unfold ghost
  (try dsimp only)
  split at h
  ·rename_i i O S e;obtain ⟨x,u,f⟩:=jr hr.tm e;cases f with
   |ptr q1 q2=>
    rw [u]
    (try dsimp only)
    split at h
    ·rename_i V B;obtain ⟨b,m,n⟩:=hr.bx.get B;cases n with
     |var hv=>
      rw [m]
      (try dsimp only)
      rw [hv.rows]<;>grind[gZ]
    ·rename_i b w B;cases h;obtain ⟨Y,m,n⟩:=hr.bx.get B;rw [m];cases n with
     |var _=>grind
     |row _ _ _ _=>grind
     |loop _=>grind
     |map _=>grind
     |dead=>grind
     |el _ q=>dsimp only;rw [oL _ (qU q)];exact ⟨σ,rfl,hr,rfl⟩
    grind
  ·rename_i y w e;obtain ⟨x,u,f⟩:=jr hr.tm e;split at h;·cases h
   rename_i H;have E:=Qw f (by grind);obtain ⟨σ',h1,h2,h3⟩:=gZ hr h;refine ⟨σ',?_,h2,h3⟩;rw [u];split
   ·grind
   next x' _ Z=>cases Z;rw [f.rows]<;>grind
   grind
  rename_i e;cases h;rw [uS hr.tm e]<;>simp_all
 rename_i s;unfold ghost
 (try dsimp only)
 split at h;next i O S e=>obtain ⟨x,u,f⟩:=jr hr.tm e;cases f<;>grind[RP]
 ·rename_i y w e;obtain ⟨x,u,f⟩:=jr hr.tm e;split at h;·cases h
  rename_i H;cases h;have E:=Qw f (by grind);rw [u];refine ⟨σ,?_,hr,rfl⟩;split
  ·grind
  rfl
 rename_i e;cases h;rw [uS hr.tm e]<;>simp_all
def F5:List Gh->ASt->Option ASt
 |[],a=>some a
 |g::r,a=>match zbh a g with
  |none=>none
  |some a'=>F5 r a'
theorem Jh:∀{l:List Gh} {a a':ASt} {σ:St},R T ρ a σ->F5 l a=some a'->∃σ',ghosts l σ=some σ'/\R T ρ a' σ'/\a'.nx=a.nx
 |[],a,a',σ,hr,h=>by simp [F5] at h;subst h;exact ⟨σ,rfl,hr,rfl⟩
 |g::r,a,a',σ,hr,h=>by
  unfold F5 at h;split at h;·cases h
  rename_i a1 h1;obtain ⟨σ1,k1,k2,k3⟩:=zbg hr h1;obtain ⟨σ2,k4,k5,k6⟩:=Jh k2 h<;>grind[ghosts]
end
section
variable {a:ASt}{x:Cx}{k nIn:Nat}{S:Nat->Nat->Bool}{σ:St}
variable {T:Tab} {n m:Nat} {ρ ρ':Rho} {Γ:Nat->Gam}
abbrev Md:=Ex×ASt
variable {outs:List Md}
def Ij (T:Tab)(Γ:Nat->Gam)(nIn:Nat)(ρ:Rho)(a:ASt)(σ:St)(c:C)(outs:List Md):Prop:=
 ∃q,q∈outs/\∃ρ' σ',More a.nx ρ q.2.nx ρ'/\R T ρ' q.2 σ'/\∃B,∀N,B<=N->run (Γ N) nIn N c σ=some (q.1,σ')
def zq9 (x:Cx)(base:Nat)(gh:List Gh)(draw:List (Nat×Nat))(l:List Ins)(live:List Nat)(a:ASt):Option (List Md):=
 match F5 gh a with
 |none=>none
 |some a1=>match MX x l a1 with
  |none=>none
  |some outs=>qM (outs.map fun q=>if pairsOk l q.2 draw then some (Ex.norm,prune base {q.1 with tm:=keepA live q.1.tm}) else none)
theorem ziK {base:Nat}{gh:List Gh}{draw:List (Nat×Nat)}{l:List Ins}{live:List Nat}(hx:Pv Γ x a.nx ρ)(hr:R x.T ρ a σ)(h:zq9 x base gh draw l live a=some outs):Ij x.T Γ nIn ρ a σ (.reg gh draw l live) outs:=by
 unfold zq9 at h;split at h;·cases h
 rename_i J n;obtain ⟨σ1,Q,E,H⟩:=Jh hr n;split at h;·cases h
 rename_i S y;obtain ⟨q,A,ρ',σ',m,f,B,U⟩:=MW (H▸hx) E y;obtain ⟨w,j,u⟩:=ig h A;split at j;next O=>cases j;refine ⟨_,u,ρ',⟨keep live σ'.tm,σ'.bx⟩,⟨by have L:=m.le;show a.nx<=q.1.nx;omega,fun s P=>m.same s (by omega)⟩,zec ⟨f.zero,f.pos,f.F,Us f.tm live,f.bx⟩,B,fun N M=>?_⟩<;>simp_all[run]
 grind
def leT (c:In):List (Nat×AX)->List (Nat×AX)->Bool
 |[],[]=>true
 |(k,a)::l,(j,p)::r=>Nat.beq k j&&leX c a p&&leT c l r
 |_,_=>false
theorem zg3 {c:In}(hS:SOk T c.S)(h0:ρ 0=0)(hF:aV n ρ c.F):∀{a p:List (Nat×AX)} {x:List (Nat×X)},leT c a p=true->GT T n ρ a x->GT T c.m (back c.θ ρ) p x
 |[],[],_,_,.nil=>.nil
 |(k,a)::l,(j,b)::r,_,h,.cons h1 h2=>by unfold leT at h;simp only [qab] at h;obtain ⟨⟨e1,e2⟩,e3⟩:=h;have e1:=qaj e1;subst e1;exact .cons (Um hS h0 hF e2 h1) (zg3 hS h0 hF e3 h2)
def zeC (c:In):List ABx->List ABx->Bool
 |[],[]=>true
 |a::l,b::r=>leB c a b&&zeC c l r
 |_,_=>false
theorem Un {c:In}(hS:SOk T c.S)(h0:ρ 0=0)(hF:aV n ρ c.F):∀{a p:List ABx} {x:List Bx},zeC c a p=true->GBs T n ρ a x->GBs T c.m (back c.θ ρ) p x
 |[],[],_,_,.nil=>.nil
 |a::l,b::r,_,h,.cons h1 h2=>by unfold zeC at h;rw [qab] at h;exact .cons (zg5 hS h0 hF h.1 h1) (Un hS h0 hF h.2 h2)
def eP (k:Nat)(acc:List (Nat×Lin)):Sub:=fun s=>if Nat.blt s k then ⟨s,0⟩ else nU acc s
def zmJ (S:Nat->Nat->Bool)(k:Nat)(acc:List (Nat×Lin))(a p:ASt):Bool:=
 let c:In:=⟨S,a.F,eP k acc,p.nx⟩
 Nat.ble k a.nx&&Nat.ble k p.nx&&Nat.blt 0 k&&leT c a.tm p.tm&&zeC c a.bx p.bx&&
  p.F.all (fun f=>Nat.blt f.x p.nx&&Nat.blt f.y p.nx&&leL a.F (eP k acc f.x) ((eP k acc f.y).up f.c))
theorem QA (hS:SOk T S){acc:List (Nat×Lin)}{p:ASt}(hr:R T ρ a σ)(h:zmJ S k acc a p=true):R T (back (eP k acc) ρ) p σ/\More k ρ p.nx (back (eP k acc) ρ):=by
 unfold zmJ at h;simp only [qab] at h;obtain ⟨⟨⟨⟨⟨L,w⟩,y⟩,A⟩,B⟩,E⟩:=h;have J:=dY y;have j:∀s,s<k->back (eP k acc) ρ s=ρ s:=fun s M=>by simp_all[back,eP,Lin.v]
 have l:=Nat.le_of_ble_eq_true w;refine ⟨⟨by rw [j 0 J];exact hr.zero,by omega,fun f H=>?_,zg3 (c:=⟨S,a.F,eP k acc,p.nx⟩) hS hr.zero hr.F A hr.tm,Un (c:=⟨S,a.F,eP k acc,p.nx⟩) hS hr.zero hr.F B hr.bx⟩,⟨l,j⟩⟩;have:=qao.1 E f H;simp only [qab] at this;obtain ⟨⟨n,q⟩,u⟩:=this;have m:=aS hr.F u;rw [Lin.nT] at m;exact ⟨dY n,dY q,m⟩
def zpg:List (Nat×AX)->List (Nat×AX)->List (Nat×Lin)->List (Nat×Lin)
 |(_,a)::l,(_,b)::r,acc=>zpg l r (zf8 a b acc)
 |_,_,acc=>acc
def CG (a p:ASt):List (Nat×Lin):=Ph a.bx p.bx (zpg a.tm p.tm [])
abbrev Mu:=Lin×Lin
variable {mu:Mu}
abbrev Orc:=C->ASt->Option (ASt×Mu)
def zg0 (k:Nat):Nat:=Nat.shiftLeft 1 k-1
def lessM (F:List Fact)(θ:Sub)(mu:Mu):Bool:=leL F (mu.2.up 1) mu.1&&
 ((leL F (mu.1.sub θ) mu.1&&leL F (mu.2.up 1) (mu.2.sub θ))||(leL F ((mu.1.sub θ).up 1) mu.1&&leL F mu.2 (mu.2.sub θ)))
def zjf (S:Nat->Nat->Bool)(nIn:Nat)(f:ASt->Option (List Md))(a I:ASt)(mu:Mu):Option (List Md):=
 if zmJ S a.nx (CG a I) a I&&Nat.blt mu.1.s I.nx&&Nat.blt mu.2.s I.nx then match f I with
  |none=>none
  |some outs=>
   if outs.all (fun q=>match q.1 with
    |.norm=>match Vf nIn q.2 with
     |some a'=>zmJ S a.nx (CG a' I) a' I&&lessM a'.F (eP a.nx (CG a' I)) mu
     |none=>false
    |_=>true) then some (outs.filter fun q=>match q.1 with|.norm=>false|_=>true) else none
 else none
theorem Ul {F:List Fact}{θ:Sub}(hF:aV n ρ F)(h:lessM F θ mu=true):1<=mu.1.v ρ-mu.2.v ρ/\mu.1.v (back θ ρ)-mu.2.v (back θ ρ)+1<=mu.1.v ρ-mu.2.v ρ:=by
 unfold lessM at h;simp at h;obtain ⟨q,a⟩:=h;have j:=aS hF q;rw [Lin.nT] at j;rw [<-qc,<-qc];rcases a with ⟨a,f⟩|⟨a,f⟩;·have l:=aS hF a;have m:=aS hF f<;>grind[Lin.nT]
 have l:=aS hF a;have m:=aS hF f<;>grind[Lin.nT]
theorem zev {b:C}{f:ASt->Option (List Md)}{I:ASt}{τ:St}
  (hf:∀{ρ':Rho} {σ':St} {os:List Md},Pv Γ x I.nx ρ'->R x.T ρ' I σ'->f I=some os->Ij x.T Γ nIn ρ' I σ' b os)
  (hx:Pv Γ x a.nx ρ) (hc:canon nIn τ=some σ) (hr:R x.T ρ a σ) (h:zjf (kle x.T) nIn f a I mu=some outs):Ij x.T Γ nIn ρ a τ (.loop b) outs:=by
 unfold zjf at h;split at h
 ·rename_i L;simp only [qab] at L;obtain ⟨⟨h1,h2⟩,h3⟩:=L;split at h;·cases h
  rename_i os ho;split at h
  ·rename_i w;cases h;have W:∀(d:Nat) (ρI:Rho) (σ τ:St),More a.nx ρ I.nx ρI->R x.T ρI I σ->canon nIn τ=some σ->(mu.1.v ρI-mu.2.v ρI).toNat<=d->
     ∃q,q∈os.filter (fun q=>match q.1 with|.norm=>false|_=>true)/\∃ρ' σ',More a.nx ρ q.2.nx ρ'/\R x.T ρ' q.2 σ'/\∃B,∀N,B<=N->∀F,d+1<=F->iter nIn (run (Γ N) nIn N b) F τ=some (q.1,σ'):=by
    intro d;induction d with
    |zero=>
     intro ρI σ τ n Q y hd;obtain ⟨q,A,ρ',σ',m,u,B,V⟩:=hf (hx.more n) Q ho;have l:=qao.1 w q A;obtain ⟨P,a'⟩:=q;cases P with
     |norm=>
      exfalso;dsimp only at l m u;split at l;next H E=>rw [qab] at l;obtain ⟨Yi,c1,M,c3⟩:=G5 u E;obtain ⟨e1,e2⟩:=Ul M.F l.2;have e3:=m.lin (dY h2);have e4:=m.lin (dY h3);omega
      grind
     |exit j=>exact ⟨_,List.mem_filter.2 ⟨A,rfl⟩,ρ',σ',n.trans m,u,B,fun N J F O=>by
       obtain ⟨F',rfl⟩:∃F',F=F'+1:=⟨F-1,by omega⟩
       grind[bF]⟩
     |ret=>exact ⟨_,List.mem_filter.2 ⟨A,rfl⟩,ρ',σ',n.trans m,u,B,fun N J F O=>by
       obtain ⟨F',rfl⟩:∃F',F=F'+1:=⟨F-1,by omega⟩
       grind[bF]⟩
    |succ d ih=>
     intro ρI σ τ n Q y hd;obtain ⟨q,A,ρ',σ',m,u,B,V⟩:=hf (hx.more n) Q ho;have l:=qao.1 w q A;obtain ⟨P,a'⟩:=q;cases P with
     |norm=>
      dsimp only at l m u V;split at l;next H E=>rw [qab] at l;obtain ⟨Yi,c1,M,c3⟩:=G5 u E;obtain ⟨e1,e2⟩:=Ul M.F l.2;obtain ⟨r1,r2⟩:=QA (sok x.T) M l.1;have e3:=m.lin (dY h2);have e4:=m.lin (dY h3);have S:More a.nx ρ I.nx (back (eP a.nx (CG H I)) ρ'):=⟨n.le,fun s U=>by rw [r2.same s U,m.same s (n.lt U),n.same s U]⟩;obtain ⟨q',Y,ρ2,σ2,Z,p3,B2,p4⟩:=ih _ Yi σ' S r1 c1 (by omega);refine ⟨q',Y,ρ2,σ2,Z,p3,max B B2,fun N J F O=>?_⟩;obtain ⟨F',rfl⟩:∃F',F=F'+1:=⟨F-1,by omega⟩;exact dV y (V N (by omega)) (p4 N (by omega) F' (by omega))
      grind
     |exit j=>exact ⟨_,List.mem_filter.2 ⟨A,rfl⟩,ρ',σ',n.trans m,u,B,fun N J F O=>by
       obtain ⟨F',rfl⟩:∃F',F=F'+1:=⟨F-1,by omega⟩
       grind[bF]⟩
     |ret=>exact ⟨_,List.mem_filter.2 ⟨A,rfl⟩,ρ',σ',n.trans m,u,B,fun N J F O=>by
       obtain ⟨F',rfl⟩:∃F',F=F'+1:=⟨F-1,by omega⟩
       grind[bF]⟩
   obtain ⟨r1,r2⟩:=QA (sok x.T) hr h1;obtain ⟨q,Y,ρ2,σ2,Z,p3,B,p4⟩:=W _ _ σ τ r2 r1 hc (Nat.le_refl _);exact ⟨q,Y,ρ2,σ2,Z,p3,max B ((mu.1.v (back (eP a.nx (CG a I)) ρ)-mu.2.v (back (eP a.nx (CG a I)) ρ)).toNat+1),fun N J=>by grind[run]⟩
  grind
 grind
def Ed (S:Nat->Nat->Bool)(k:Nat)(q p:Md):Bool:=decide (q.1=p.1)&&zmJ S k (CG q.2 p.2) q.2 p.2
def thin (S:Nat->Nat->Bool)(k:Nat):List Md->List Md
 |[]=>[]
 |q::r=>let t:=thin S k r
  if t.any (Ed S k q) then t else q::t.filter (fun p=>!Ed S k p q)
theorem Ik (hS:SOk T S){q p:Md}(h:Ed S k q p=true)(hr:R T ρ q.2 σ):p.1=q.1/\∃ρ',More k ρ p.2.nx ρ'/\R T ρ' p.2 σ:=by
 unfold Ed at h;rw [qab] at h;have a:=QA hS hr h.2
 grind
theorem YL {S:Nat->Nat->Bool}(hS:SOk T S){k:Nat}:∀{l:List Md} {q:Md} {ρ:Rho} {σ:St},q∈l->k<=q.2.nx->R T ρ q.2 σ->∃p,p∈thin S k l/\p.1=q.1/\∃ρ',More k ρ p.2.nx ρ'/\R T ρ' p.2 σ
 |[],_,_,_,h,_,_=>by cases h
 |a::r,q,ρ,σ,h,hk,hr=>by
  have self:∀{q:Md},k<=q.2.nx->R T ρ q.2 σ->∃ρ',More k ρ q.2.nx ρ'/\R T ρ' q.2 σ:=fun hk hr=>⟨ρ,⟨hk,fun _ _=>rfl⟩,hr⟩;rcases qal.1 h with rfl|h
  ·unfold thin;dsimp only;split;next hs=>obtain ⟨p,hp,hw⟩:=List.any_eq_true.1 hs<;>grind[Ik]
   grind
  obtain ⟨p,hp,e,ρ1,m1,r1⟩:=YL hS h hk hr;unfold thin;dsimp only;split
  ·grind
  cases hw:Ed S k p a with
  |true=>obtain ⟨e2,ρ2,m2,r2⟩:=Ik hS hw r1;exact ⟨a,qaq,e2.trans e,ρ2,⟨m2.le,fun s hs=>(m2.same s hs).trans (m1.same s hs)⟩,r2⟩
  |false=>grind
theorem Ij.thin (hS:SOk T S){Γ:Nat->Gam}{c:C}(h:Ij T Γ nIn ρ a σ c outs):Ij T Γ nIn ρ a σ c (thin S a.nx outs):=by obtain ⟨q,n,ρ',σ',j,u,B,A⟩:=h;obtain ⟨p,m,e,ρ2,l,w⟩:=YL hS n j.le u;exact ⟨p,m,ρ2,σ',⟨l.le,fun s f=>(l.same s f).trans (j.same s f)⟩,w,B,fun N y=>by grind⟩
def L8 (x:Cx)(orc:Orc)(nIn:Nat):C->Nat->ASt->Option (List Md)
 |.skip,_,a=>some [(.norm,a)]
 |.reg gh draw l live,base,a=>(zq9 x base gh draw l live a).map (thin (kle x.T) a.nx)
 |.seq p q,base,a=>match L8 x orc nIn p base a with
  |none=>none
  |some outs=>(qM (outs.map fun o=>match o.1 with
   |.norm=>L8 x orc nIn q base o.2
   |e=>some [(e,o.2)])).map (fun ls=>thin (kle x.T) a.nx (List.flatten ls))
 |.cond c p q,base,a=>match a.ev c with
  |some (.b tf ff)=>
   match (match assume a tf with|some a'=>L8 x orc nIn p base a'|none=>some []),(match assume a ff with|some a'=>L8 x orc nIn q base a'|none=>some []) with
   |some l,some r=>some (thin (kle x.T) a.nx (l++r))
   |_,_=>none
  |_=>none
 |.block id p,base,a=>(L8 x orc nIn p base a).map fun outs=>outs.map fun o=>(match o.1 with|.exit j=>if j==id then .norm else .exit j|e=>e,o.2)
 |.loop p,_,a=>match Vf nIn a with
  |none=>none
  |some a'=>match orc p a' with
   |none=>none
   |some (I,mu)=>zjf (kle x.T) nIn (L8 x orc nIn p (zg0 I.nx)) a' I mu
 |.exit id,_,a=>some [(.exit id,a)]
 |.ret,_,a=>some [(.ret,a)]
 |_,_,_=>none
theorem wZ {x:Cx}{orc:Orc}{nIn:Nat}:∀{c:C} {base:Nat} {ρ:Rho} {a:ASt} {σ:St} {outs:List Md},Pv Γ x a.nx ρ->R x.T ρ a σ->L8 x orc nIn c base a=some outs->Ij x.T Γ nIn ρ a σ c outs
 |.skip,base,ρ,a,σ,outs,hx,hr,h=>by simp [L8] at h;subst h;exact ⟨_,qaa.2 rfl,ρ,σ,.refl ..,hr,0,fun N _=>rfl⟩
 |.reg gh draw l live,base,ρ,a,σ,outs,hx,hr,h=>by
  simp only [L8] at h;obtain ⟨os,ho,rfl⟩:=qac.1 h
  grind[Ij.thin,sok,ziK]
 |.seq p q,base,ρ,a,σ,outs,hx,hr,h=>by
  simp only [L8] at h;split at h;·cases h
  rename_i os ho;obtain ⟨ls,hls,rfl⟩:=qac.1 h;refine Ij.thin (sok x.T) ?_;obtain ⟨o,hm,ρ1,σ1,k1,k2,B1,k3⟩:=wZ hx hr ho;obtain ⟨l,hl,hlm⟩:=ig hls hm;obtain ⟨e,a1⟩:=o;cases e with
  |norm=>dsimp only at hl k1 k2 k3;obtain ⟨w,hw,ρ2,σ2,p1,p2,B2,p3⟩:=wZ (hx.more k1) k2 hl;exact ⟨w,List.mem_flatten.2 ⟨l,hlm,hw⟩,ρ2,σ2,k1.trans p1,p2,max B1 B2,fun N hN=>by grind[run]⟩
  |exit j=>dsimp only at hl k1 k2 k3;cases hl;exact ⟨_,List.mem_flatten.2 ⟨_,hlm,qaa.2 rfl⟩,ρ1,σ1,k1,k2,B1,fun N hN=>by grind[run]⟩
  |ret=>dsimp only at hl k1 k2 k3;cases hl;exact ⟨_,List.mem_flatten.2 ⟨_,hlm,qaa.2 rfl⟩,ρ1,σ1,k1,k2,B1,fun N hN=>by grind[run]⟩
 |.cond c p q,base,ρ,a,σ,outs,hx,hr,h=>by
  simp only [L8] at h;split at h
  ·rename_i tf ff e;obtain ⟨y,hy,gy⟩:=bY hr e;cases gy with
   |b h1 h2=>
    rename_i t;split at h
    ·rename_i l r hl hr';cases h;refine Ij.thin (sok x.T) ?_;cases t with
     |true=>obtain ⟨a',e1,e2,e3⟩:=kC hr (h1 rfl);rw [e1] at hl;obtain ⟨w,hw,ρ2,σ2,p1,p2,B,p3⟩:=wZ (e3▸hx) e2 hl;exact ⟨w,List.mem_append_left _ hw,ρ2,σ2,e3▸p1,p2,B,fun N hN=>by simp_all[run]⟩
     |false=>obtain ⟨a',e1,e2,e3⟩:=kC hr (h2 rfl);rw [e1] at hr';obtain ⟨w,hw,ρ2,σ2,p1,p2,B,p3⟩:=wZ (e3▸hx) e2 hr';exact ⟨w,List.mem_append_right _ hw,ρ2,σ2,e3▸p1,p2,B,fun N hN=>by simp_all[run]⟩
    grind
  grind
 |.block id p,base,ρ,a,σ,outs,hx,hr,h=>by
  simp only [L8] at h;obtain ⟨os,ho,rfl⟩:=qac.1 h;obtain ⟨o,hm,ρ1,σ1,k1,k2,B,k3⟩:=wZ hx hr ho;refine ⟨_,qah.2 ⟨o,hm,rfl⟩,ρ1,σ1,k1,k2,B,fun N hN=>?_⟩
  grind[run]
 |.loop p,base,ρ,a,σ,outs,hx,hr,h=>by
  simp only [L8] at h;split at h;·cases h
  rename_i a' hc;split at h;·cases h
  rename_i I mu ho;obtain ⟨σ',c1,c2,c3⟩:=G5 hr hc;obtain ⟨w,hw,ρ2,σ2,p1,p2,B,p3⟩:=zev (Γ:=Γ) (x:=x) (b:=p) (τ:=σ) (σ:=σ') (fun hx' hr' ho'=>wZ hx' hr' ho') (c3▸hx) c1 c2 h;exact ⟨w,hw,ρ2,σ2,c3▸p1,p2,B,p3⟩
 |.exit id,base,ρ,a,σ,outs,hx,hr,h=>by simp [L8] at h;subst h;exact ⟨_,qaa.2 rfl,ρ,σ,.refl ..,hr,0,fun N _=>rfl⟩
 |.ret,base,ρ,a,σ,outs,hx,hr,h=>by simp [L8] at h;subst h;exact ⟨_,qaa.2 rfl,ρ,σ,.refl ..,hr,0,fun N _=>rfl⟩
 |.rf _ _ _ _ _,base,ρ,a,σ,outs,hx,hr,h=>by grind[L8]
 |.stuck,base,ρ,a,σ,outs,hx,hr,h=>by grind[L8]
end
end Go.Ab
