/- The machine over sets of values: contracts, and calls by them. -/
import Derived.Test.YtjbndifenhihhaaGreatDoorEmP10
namespace Go.Ab
open Go.Em
variable {T:Tab} {n m:Nat} {ρ ρ':Rho}
mutual
def AX.data (F:List Fact)(bx:List ABx)(raw:Bool):AX→Option AX
 |.bs i o l=>match bx[i]?,SK o l with
  |some (.row sz k h rl),some e=>if leL F e rl then some (.sl (some false) sz k h l) else none
  |_,_=>none
 |.sl t sz k h l=>some (.sl (if raw then t else some false) sz k h l)
 |.agg cs=>(Md F bx raw cs).map .agg
 |.tup cs=>(Md F bx raw cs).map .tup
 |.x (.v v)=>some (.x (.v v))
 |.x .ifc=>some (.x .ifc)
 |.x (.sl t s es)=>some (.x (.sl (raw&&t) s es))
 |.x _=>none
 |.i k l=>some (.i k l)
 |.b t u=>some (.b t u)
 |.s l=>some (.s l)
 |.ptr i e o=>some (.ptr i e o)
 |.dp cs=>some (.dp cs)
 |.fn f cs=>some (.fn f cs)
 |.yl i=>some (.yl i)
 |.mp i=>some (.mp i)
 |.rE=>some .rE
 |.el k h=>some (.el k h)
 |.de k h=>some (.de k h)
def Md (F:List Fact)(bx:List ABx)(raw:Bool):List AX→Option (List AX)
 |[]=>some []
 |x::r=>match x.data F bx raw with
  |none=>none
  |some y=>(Md F bx raw r).map (y::·)
end
theorem XB {P:Nat→List X→Prop}{bxs:List Bx}{raw:Bool}{t:ET}{x:X}(h:Nc P t x):∃y,x.data bxs raw=some y∧Nc P t y:=by
 unfold Nc at h
 split at h
 ·exact ⟨_,rfl,h⟩
 ·exact ⟨_,rfl,trivial⟩
 ·exact ⟨_,rfl,h⟩
 ·exact ⟨_,rfl,h⟩
 ·exact ⟨_,rfl,trivial⟩
 ·rcases h with rfl|rfl
  ·exact ⟨_,rfl,.inl rfl⟩
  ·exact ⟨_,rfl,.inr rfl⟩
 ·exact h.elim
theorem Px {P:Nat→List X→Prop}{bxs:List Bx}{raw:Bool}:∀{ts:List ET} {xs:List X},ETs P ts xs→∃ys,fG bxs raw xs=some ys∧ETs P ts ys
 |[],[],_=>⟨[],rfl,trivial⟩
 |t::ts,x::xs,h=>by
  obtain ⟨y,h1,h2⟩:=XB (bxs:=bxs) (raw:=raw) h.1
  obtain ⟨ys,h3,h4⟩:=Px (bxs:=bxs) (raw:=raw) h.2
  exact ⟨y::ys,by unfold fG;rw [h1];simp only [h3,Option.map_some],h2,h4⟩
theorem ziC {T:Tab}{bxs:List Bx}{raw:Bool}{h:Int}{k:Nat}{xs:List X}(hd:D T h k xs):∃ys,fG bxs raw xs=some ys∧D T h k ys:=by
 obtain ⟨h1,alt,ha,hs⟩:=qG hd
 obtain ⟨ys,h2,h3⟩:=Px (bxs:=bxs) (raw:=raw) hs
 exact ⟨ys,h2,dY h1 ha h3⟩
mutual
theorem G.data {F:List Fact}{bx:List ABx}{bxs:List Bx}{raw:Bool}(hF:aW n ρ F)(hb:GBs T n ρ bx bxs)(h0:ρ 0=0):∀{a y:AX} {x:X},G T n ρ a x→a.data F bx raw=some y→∃z,x.data bxs raw=some z∧G T n ρ y z
 |.bs i o l,y,.bs _ o' l',.bs q1 q2 q3 q4,h=>by
  unfold AX.data at h
  split at h
  ·rename_i sz k hh rl e hbx ha
   split at h
   ·rename_i hc
    cases h
    have c:=aQ hF hc
    rw [nR h0 ha] at c
    obtain ⟨b,hb',hgb⟩:=hb.get hbx
    cases hgb with
    |row w1 w2 w3 w4=>
     rename_i es
     have hle:o'+l'≤es.length:=by omega
     refine ⟨.sl false sz ((es.drop o').take l'),by simp only [X.data,rowOf,hb',if_pos hle,Option.map_some],.sl w1 q2 rfl ?_ fun w hw=>w4 w (List.mem_of_mem_drop (List.mem_of_mem_take hw))⟩
     rw [List.length_take,List.length_drop,Nat.min_eq_left (by omega)];exact q4
   ·cases h
  ·cases h
 |.sl t sz k hh l,y,.sl tt _ es,.sl q1 q2 q3 q4 q5,h=>by
  simp only [AX.data,Option.some.injEq] at h
  subst h
  refine ⟨_,rfl,.sl q1 q2 ?_ q4 q5⟩
  cases raw with
  |true=>simpa using q3
  |false=>exact rfl
 |.agg cs,y,.agg xs,.agg q,h=>by
  simp only [AX.data] at h
  obtain ⟨ys,h1,rfl⟩:=Option.map_eq_some_iff.1 h
  obtain ⟨zs,h2,h3⟩:=GL.data hF hb h0 q h1
  exact ⟨_,by simp only [X.data,h2,Option.map_some],.agg h3⟩
 |.tup cs,y,.tup xs,.tup q,h=>by
  simp only [AX.data] at h
  obtain ⟨ys,h1,rfl⟩:=Option.map_eq_some_iff.1 h
  obtain ⟨zs,h2,h3⟩:=GL.data hF hb h0 q h1
  exact ⟨_,by simp only [X.data,h2,Option.map_some],.tup h3⟩
 |.x (.v v),y,_,.x q,h=>by simp only [AX.data,Option.some.injEq] at h;subst h;exact ⟨_,rfl,.x q⟩
 |.x .ifc,y,_,.x q,h=>by simp only [AX.data,Option.some.injEq] at h;subst h;exact ⟨_,rfl,.x q⟩
 |.x (.sl t s es),y,_,.x q,h=>by simp only [AX.data,Option.some.injEq] at h;subst h;exact ⟨_,rfl,.x rfl⟩
 |.i k l,y,_,.i q1 q2,h=>by simp only [AX.data,Option.some.injEq] at h;subst h;exact ⟨_,rfl,.i q1 q2⟩
 |.b t u,y,_,.b q1 q2,h=>by simp only [AX.data,Option.some.injEq] at h;subst h;exact ⟨_,rfl,.b q1 q2⟩
 |.s l,y,_,.s q1 q2,h=>by simp only [AX.data,Option.some.injEq] at h;subst h;exact ⟨_,rfl,.s q1 q2⟩
 |.ptr i e o,y,_,.ptr q1 q2,h=>by simp only [AX.data,Option.some.injEq] at h;subst h;exact ⟨_,rfl,.ptr q1 q2⟩
 |.dp cs,y,_,.dp q,h=>by simp only [AX.data,Option.some.injEq] at h;subst h;exact ⟨_,rfl,.dp q⟩
 |.fn f cs,y,_,.fn q,h=>by simp only [AX.data,Option.some.injEq] at h;subst h;exact ⟨_,rfl,.fn q⟩
 |.yl i,y,_,.yl,h=>by simp only [AX.data,Option.some.injEq] at h;subst h;exact ⟨_,rfl,.yl⟩
 |.mp i,y,_,.mp,h=>by simp only [AX.data,Option.some.injEq] at h;subst h;exact ⟨_,rfl,.mp⟩
 |.rE,y,_,.ifc,h=>by simp only [AX.data,Option.some.injEq] at h;subst h;exact ⟨_,rfl,.ifc⟩
 |.rE,y,_,.CX,h=>by simp only [AX.data,Option.some.injEq] at h;subst h;exact ⟨_,rfl,.CX⟩
 |.el k h',y,_,.el (xs:=xs) q1 q2,h=>by
  simp only [AX.data,Option.some.injEq] at h;subst h
  obtain ⟨ys,h1,h2⟩:=ziC (bxs:=bxs) (raw:=raw) q2
  exact ⟨.agg ys,by simp only [X.data,h1,Option.map_some],.el q1 h2⟩
 |.de k h',y,_,.de q1 q2,h=>by simp only [AX.data,Option.some.injEq] at h;subst h;exact ⟨_,rfl,.de q1 q2⟩
theorem GL.data {F:List Fact}{bx:List ABx}{bxs:List Bx}{raw:Bool}(hF:aW n ρ F)(hb:GBs T n ρ bx bxs)(h0:ρ 0=0):∀{a y:List AX} {x:List X},GL T n ρ a x→Md F bx raw a=some y→∃z,fG bxs raw x=some z∧GL T n ρ y z
 |[],y,_,.nil,h=>by simp only [Md,Option.some.injEq] at h;subst h;exact ⟨[],rfl,.nil⟩
 |a::l,y,_,.cons g1 g2,h=>by
  unfold Md at h
  split at h
  ·cases h
  ·rename_i y' h1
   obtain ⟨ys,h2,rfl⟩:=Option.map_eq_some_iff.1 h
   obtain ⟨z,h3,h4⟩:=G.data hF hb h0 g1 h1
   obtain ⟨zs,h5,h6⟩:=GL.data hF hb h0 g2 h2
   exact ⟨z::zs,by unfold fG;rw [h3];simp only [h5,Option.map_some],.cons h4 h6⟩
end
mutual
def AX.rows:AX→List Nat
 |.bs i _ _=>[i]
 |.agg cs=>Ej cs
 |.tup cs=>Ej cs
 |.i _ _|.b _ _|.s _|.x _|.sl _ _ _ _ _|.ptr _ _ _|.dp _|.fn _ _|.yl _|.mp _|.rE|.el _ _|.de _ _=>[]
def Ej:List AX→List Nat
 |[]=>[]
 |x::r=>x.rows++Ej r
end
mutual
theorem He:∀(x:X),x.refs=[]→x.rows=[]
 |.bs _ _ _,h=>by simp [X.refs] at h
 |.agg cs,h=>l7 cs h
 |.tup cs,h=>l7 cs h
 |.v _,_=>rfl
 |.sl _ _ _,_=>rfl
 |.ptr _ _ _,_=>rfl
 |.dp _,_=>rfl
 |.fn _ _,_=>rfl
 |.yl _,_=>rfl
 |.mp _,_=>rfl
 |.ifc,_=>rfl
theorem l7:∀(xs:List X),bM xs=[]→fO xs=[]
 |[],_=>rfl
 |x::r,h=>by
  have h:x.refs++bM r=[]:=h
  obtain ⟨h1,h2⟩:=List.append_eq_nil_iff.1 h
  show x.rows++fO r=[]
  rw [He x h1,l7 r h2];rfl
end
mutual
theorem G.rows:∀{a:AX} {x:X},G T n ρ a x→x.rows=a.rows
 |_,_,.i _ _=>rfl
 |_,_,.b _ _=>rfl
 |_,_,.s _ _=>rfl
 |_,_,.x h=>He _ h
 |_,_,.sl _ _ _ _ _=>rfl
 |_,_,.bs _ _ _ _=>rfl
 |_,_,.ptr _ _=>rfl
 |_,_,.dp _=>rfl
 |_,_,.fn _=>rfl
 |_,_,.agg h=>h.rows
 |_,_,.tup h=>h.rows
 |_,_,.yl=>rfl
 |_,_,.mp=>rfl
 |_,_,.ifc=>rfl
 |_,_,.CX=>rfl
 |_,_,.el _ h=>l7 _ (nX h)
 |_,_,.de _ _=>rfl
theorem GL.rows:∀{a:List AX} {x:List X},GL T n ρ a x→fO x=Ej a
 |_,_,.nil=>rfl
 |_,_,.cons h1 h2=>by show X.rows _++fO _=AX.rows _++Ej _;rw [h1.rows,h2.rows]
end
mutual
def AX.plain:AX→Bool
 |.i _ _|.b _ _|.s _=>true
 |.x (.v _)=>true
 |.agg cs=>Cj cs
 |.tup cs=>Cj cs
 |.fn _ cs=>Cj cs
 |_=>false
def Cj:List AX→Bool
 |[]=>true
 |x::r=>x.plain&&Cj r
end
mutual
theorem G.plain:∀{a:AX} {x:X},G T n ρ a x→a.plain=true→x.plain=true
 |_,_,.i _ _,_=>rfl
 |_,_,.b _ _,_=>rfl
 |_,_,.s _ _,_=>rfl
 |.x (.v _),_,.x _,_=>rfl
 |_,_,.fn h,e=>h.plain e
 |_,_,.agg h,e=>h.plain e
 |_,_,.tup h,e=>h.plain e
theorem GL.plain:∀{a:List AX} {x:List X},GL T n ρ a x→Cj a=true→wC x=true
 |_,_,.nil,_=>rfl
 |a::l,x::m,.cons h1 h2,e=>by
  have e:(a.plain&&Cj l)=true:=e
  rw [Bool.and_eq_true] at e
  show (x.plain&&wC m)=true
  rw [h1.plain e.1,h2.plain e.2];rfl
end
structure zfM where
 m:Nat
 F:List Fact
 r:AX
 bx:List ABx
 deriving Inhabited
structure Ctr where
 f:FuncId
 m:Nat
 args:List AX
 inb:List ABx
 pre:List Fact
 mu:Option Lin
 outs:List zfM
 rank:Nat
 alts:List (List Fact)
 deriving Inhabited
structure Ctr.Sat (T:Tab) (c:Ctr) (ρ:Rho) (args:List X) (inb:List Bx):Prop where
 zero:ρ 0=0
 pos:0<c.m
 pre:aW c.m ρ c.pre
 alts:∃p,p∈c.alts∧aW c.m ρ p
 args:GL T c.m ρ c.args args
 inb:GBs T c.m ρ c.inb inb
def Ctr.Res (T:Tab)(Γ:Nat→Gam)(c:Ctr)(ρ:Rho)(args:List X)(inb:List Bx):Prop:=
 ∃o,o∈c.outs∧∃ρ' r bx,More c.m ρ o.m ρ'∧aW o.m ρ' o.F∧G T o.m ρ' o.r r∧GBs T o.m ρ' o.bx bx∧∃B,∀N,B≤N→Γ N (.fn c.f) args inb=some (r,bx)
def Ctr.Holds (T:Tab)(Γ:Nat→Gam)(c:Ctr):Prop:=∀ρ args inb,c.Sat T ρ args inb→c.Res T Γ ρ args inb
def Ctr.Below (T:Tab)(Γ:Nat→Gam)(c:Ctr)(d:Int):Prop:=∀ρ args inb,c.Sat T ρ args inb→(∃l,c.mu=some l∧0≤l.v ρ∧16*l.v ρ+c.rank<d)→c.Res T Γ ρ args inb
def vP (l p:Lin)(acc:List (Nat×Lin)):List (Nat×Lin):=
 if Nat.beq p.s 0 then acc else if acc.any (fun q=>Nat.beq q.1 p.s) then acc else (p.s,l.up (-p.c))::acc
mutual
def zaI:AX→AX→List (Nat×Lin)→List (Nat×Lin)
 |.i _ l,.i _ p,acc=>vP l p acc
 |.s l,.s p,acc=>vP l p acc
 |.x (.v (.string bs)),.s p,acc=>vP (.k bs.size) p acc
 |.sl _ _ _ h l,.sl _ _ _ h' l',acc=>vP h h' (vP l l' acc)
 |.x (.sl _ _ []),.sl _ _ _ _ l',acc=>vP (.k 0) l' acc
 |.bs _ o l,.bs _ o' l',acc=>vP o o' (vP l l' acc)
 |.ptr _ e _,.ptr _ e' _,acc=>vP e e' acc
 |.dp cs,.dp ps,acc=>AA cs ps acc
 |.fn _ cs,.fn _ ps,acc=>AA cs ps acc
 |.agg cs,.agg ps,acc=>AA cs ps acc
 |.tup cs,.tup ps,acc=>AA cs ps acc
 |.el _ h,.el _ h',acc=>vP h h' acc
 |_,_,acc=>acc
def AA:List AX→List AX→List (Nat×Lin)→List (Nat×Lin)
 |a::l,b::r,acc=>AA l r (zaI a b acc)
 |_,_,acc=>acc
end
def zlA:ABx→ABx→List (Nat×Lin)→List (Nat×Lin)
 |.var cs,.var ps,acc=>AA cs ps acc
 |.row _ _ h l,.row _ _ h' l',acc=>vP h h' (vP l l' acc)
 |.el _ h,.el _ h',acc=>vP h h' acc
 |_,_,acc=>acc
def Jo:List ABx→List ABx→List (Nat×Lin)→List (Nat×Lin)
 |a::l,b::r,acc=>Jo l r (zlA a b acc)
 |_,_,acc=>acc
def oh (acc:List (Nat×Lin)):Sub
 |0=>.k 0
 |s+1=>match acc.find? (fun q=>Nat.beq q.1 (s+1)) with
  |some q=>q.2
  |none=>.k 0
theorem Yr {acc:List (Nat×Lin)}(hn:0<n)(h:acc.all (fun q=>blt q.2 n)=true)(s:Nat):(oh acc s).s<n:=by
 cases s with
 |zero=>exact hn
 |succ s=>
  show (match acc.find? (fun q:Nat×Lin=>Nat.beq q.1 (s+1)) with|some q=>q.2|none=>Lin.k 0).s<n
  split
  ·rename_i q hq
   exact Xo (List.all_eq_true.1 h q (List.mem_of_find?_eq_some hq))
  ·exact hn
def leM (c:In):List (Value×AX)→List (Value×AX)→Bool
 |[],[]=>true
 |(.int k z,a)::l,(.int k' z',b)::r=>decide (k=k')&&decide (z=z')&&leX c a b&&leM c l r
 |_,_=>false
def leB (c:In):ABx→ABx→Bool
 |.var cs,.var ps=>Ze c cs ps
 |.row sz k h l,.row sz' k' h' l'=>Nat.beq sz sz'&&Nat.blt h'.s c.m&&lEq c l l'&&(leL c.F l (.k 0)||(Nat.beq k k'&&lLe c h h'))
 |.dead,.dead=>true
 |.map es,.map ps=>leM c es ps
 |.el k h,.el k' h'=>Nat.beq k k'&&lLe c h h'
 |_,_=>false
def zhm (c:In):List ABx→List ABx→Bool
 |[],[]=>true
 |a::l,b::r=>leB c a b&&zhm c l r
 |_,_=>false
theorem zbm {c:In}(h0:ρ 0=0)(hF:aW n ρ c.F):∀{a p:List (Value×AX)} {x:List (Value×X)},leM c a p=true→GM T n ρ a x→GM T c.m (back c.θ ρ) p x
 |[],[],_,_,.nil=>.nil
 |(.int k z,a)::l,(.int k' z',b)::r,_,h,.cons h1 h2=>by
  unfold leM at h
  simp only [Bool.and_eq_true,decide_eq_true_eq] at h
  obtain ⟨⟨⟨rfl,rfl⟩,e2⟩,e3⟩:=h
  exact .cons (Oi h0 hF e2 h1) (zbm h0 hF e3 h2)
theorem zbn {c:In}(h0:ρ 0=0)(hF:aW n ρ c.F){a p:ABx}{x:Bx}(h:leB c a p=true)(hg:GB T n ρ a x):GB T c.m (back c.θ ρ) p x:=by
 unfold leB at h
 split at h
 ·cases hg with|var q=>exact .var (qW h0 hF h q)
 ·simp only [Bool.and_eq_true,Bool.or_eq_true] at h
  obtain ⟨⟨⟨e2,e3⟩,e4⟩,e5⟩:=h
  have e2:=Nat.eq_of_beq_eq_true e2
  subst e2
  obtain ⟨h3,h4⟩:=tJ hF e4
  cases hg with
  |row q1 q2 q4 q5=>
   refine .row (eF e3) h3 (by rw [←h4];exact q4) fun e he=>?_
   rcases e5 with e5|⟨e5,e6⟩
   ·have:=aQ hF e5
    rw [Lin.k_v h0] at this
    have:=List.length_pos_of_mem he
    omega
   ·rw [←Nat.eq_of_beq_eq_true e5]
    exact kQ (Ol hF e6).2 (q5 e he)
 ·cases hg;exact .dead
 ·cases hg with|map q=>exact .map (zbm h0 hF h q)
 ·rw [Bool.and_eq_true] at h
  have e1:=Nat.eq_of_beq_eq_true h.1
  subst e1
  have e2:=Ol hF h.2
  cases hg with|el q1 q2=>exact .el e2.1 (kQ e2.2 q2)
 ·cases h
theorem KA {c:In}(h0:ρ 0=0)(hF:aW n ρ c.F):∀{a p:List ABx} {x:List Bx},zhm c a p=true→GBs T n ρ a x→GBs T c.m (back c.θ ρ) p x
 |[],[],_,_,.nil=>.nil
 |a::l,b::r,_,h,.cons h1 h2=>by
  unfold zhm at h
  rw [Bool.and_eq_true] at h
  exact .cons (zbn h0 hF h.1 h1) (KA h0 hF h.2 h2)
def okF (a:ASt)(c:Ctr)(θl:List (Nat×Lin))(f:Fact):Bool:=Nat.blt f.x c.m&&Nat.blt f.y c.m&&leL a.F (oh θl f.x) ((oh θl f.y).up f.c)
def zf2 (a:ASt)(c:Ctr)(θl:List (Nat×Lin))(args:List AX)(inb:List ABx):Bool:=
 θl.all (fun q=>blt q.2 a.nx)&&Nat.blt 0 c.m&&Ze ⟨a.F,oh θl,c.m⟩ args c.args&&zhm ⟨a.F,oh θl,c.m⟩ inb c.inb&&
  c.pre.all (okF a c θl)&&c.alts.any (fun p=>p.all (okF a c θl))
theorem Wv {a:ASt}{σ:St}(hr:R T ρ a σ){c:Ctr}{θl:List (Nat×Lin)}{args:List AX}{inb:List ABx}{xs:List X}{bxs:List Bx}(hg:GL T a.nx ρ args xs)(hb:GBs T a.nx ρ inb bxs)(h:zf2 a c θl args inb=true):c.Sat T (back (oh θl) ρ) xs bxs:=by
 unfold zf2 at h
 simp only [Bool.and_eq_true] at h
 obtain ⟨⟨⟨⟨⟨h1,h2⟩,h3⟩,h4⟩,h5⟩,h6⟩:=h
 have key:∀l:List Fact,l.all (okF a c θl)=true→aW c.m (back (oh θl) ρ) l:=fun l hl f hf=>by
  have:=List.all_eq_true.1 hl f hf
  unfold okF at this
  simp only [Bool.and_eq_true] at this
  obtain ⟨⟨e1,e2⟩,e3⟩:=this
  have e4:=aQ hr.F e3
  rw [Lin.kZ] at e4
  exact ⟨eF e1,eF e2,e4⟩
 obtain ⟨p,hp,hp2⟩:=List.any_eq_true.1 h6
 exact ⟨by unfold back oh;exact Lin.k_v hr.zero 0,eF h2,key _ h5,⟨p,hp,key _ hp2⟩,qW (c:=⟨a.F,oh θl,c.m⟩) hr.zero hr.F h3 hg,KA (c:=⟨a.F,oh θl,c.m⟩) hr.zero hr.F h4 hb⟩
def zjN (nx m:Nat)(θ:Sub):Sub:=fun s=>if Nat.blt s m then θ s else ⟨nx+(s-m),0⟩
def iO (a:ASt)(c:Ctr)(θl:List (Nat×Lin))(o:zfM):AX×List ABx×ASt:=
 let θ:=zjN a.nx c.m (oh θl)
 (o.r.sub θ,o.bx.map (ABx.sub θ),{a with nx:=a.nx+(o.m-c.m),F:=o.F.map (Fact.sub θ)++a.F})
theorem FU {s m:Nat}:Nat.blt s m=true↔s<m:=by
 constructor
 ·exact eF
 ·intro h;exact Nat.ble_eq_true_of_le h
theorem Js {a:ASt}{σ:St}(hr:R T ρ a σ){c:Ctr}{θl:List (Nat×Lin)}{o:zfM}{ρo:Rho}{r:X}{bx:List Bx}(hθ:θl.all (fun q=>blt q.2 a.nx)=true)(hm:More c.m (back (oh θl) ρ) o.m ρo)(hF:aW o.m ρo o.F)(hg:G T o.m ρo o.r r)(hb:GBs T o.m ρo o.bx bx):
  ∃ρ',More a.nx ρ (iO a c θl o).2.2.nx ρ'∧R T ρ' (iO a c θl o).2.2 σ∧G T (iO a c θl o).2.2.nx ρ' (iO a c θl o).1 r∧GBs T (iO a c θl o).2.2.nx ρ' (iO a c θl o).2.1 bx:=by
 let ρ':Rho:=fun s=>if s<a.nx then ρ s else ρo (c.m+(s-a.nx))
 have hle:=hm.le
 have hmore:More a.nx ρ (a.nx+(o.m-c.m)) ρ':=⟨by omega,fun s hs=>if_pos hs⟩
 have hsub:BD o.m ρo (a.nx+(o.m-c.m)) ρ' (zjN a.nx c.m (oh θl)):=fun s hs=>by
  unfold zjN
  by_cases hc:s<c.m
  ·rw [if_pos (FU.2 hc)]
   have h1:=Yr hr.pos hθ s
   exact ⟨by omega,by rw [hmore.lin h1,hm.same s hc];rfl⟩
  ·rw [if_neg (fun h=>hc (FU.1 h))]
   refine ⟨by dsimp only;omega,?_⟩
   unfold Lin.v
   dsimp only
   have:ρ' (a.nx+(s-c.m))=ρo s:=by
    show (if a.nx+(s-c.m)<a.nx then ρ (a.nx+(s-c.m)) else ρo (c.m+(a.nx+(s-c.m)-a.nx)))=ρo s
    rw [if_neg (by omega)]
    congr 1;omega
   rw [this];omega
 have h1:=hr.more hmore
 exact ⟨ρ',hmore,⟨h1.zero,h1.pos,(hF.sub hsub).append h1.F,h1.tm,h1.bx⟩,hg.sub hsub,hb.sub hsub⟩
end Go.Ab
namespace Go.Ab
open Go.Em
variable {T:Tab} {n m:Nat} {ρ ρ':Rho} {Γ:Nat→Gam}
structure Cx where
 T:Tab
 K:Names
 C:List Ctr
 own:List Ctr
 mu:Option Lin
 rank:Nat
structure Jv (Γ:Nat→Gam) (x:Cx) (n:Nat) (ρ:Rho):Prop where
 all:∀c,c∈x.C→c.Holds x.T Γ
 own:∀l,x.mu=some l→l.s<n∧∀c,c∈x.own→c.Below x.T Γ (16*l.v ρ+x.rank)
theorem Jv.more {x:Cx}{n':Nat}(h:Jv Γ x n ρ)(hm:More n ρ n' ρ'):Jv Γ x n' ρ':=
 ⟨h.all,fun l hl=>by
  obtain ⟨h1,h2⟩:=h.own l hl
  exact ⟨hm.lt h1,by rw [hm.lin h1];exact h2⟩⟩
def zhk (x:Cx)(a:ASt)(c:Ctr)(θl:List (Nat×Lin)):Bool:=match x.mu,c.mu with
 |some l,some p=>Nat.blt p.s c.m&&leL a.F (.k 0) (p.sub (oh θl))&&(leL a.F ((p.sub (oh θl)).up 1) l&&Nat.blt c.rank 16||leL a.F (p.sub (oh θl)) l&&Nat.blt c.rank x.rank)
 |_,_=>false
def Z9 (x:Cx)(a:ASt)(g:FuncId)(args:List AX)(inb:List ABx):Option (Ctr×List (Nat×Lin)):=
 let cand:=fun c:Ctr=>(c,Jo inb c.inb (AA args c.args []))
 match (x.C.filter fun c=>Nat.beq c.f g).find? (fun c=>zf2 a c (cand c).2 args inb) with
 |some c=>some (cand c)
 |none=>match (x.own.filter fun c=>Nat.beq c.f g).find? (fun c=>zf2 a c (cand c).2 args inb&&zhk x a c (cand c).2) with
  |some c=>some (cand c)
  |none=>none
theorem OO {x:Cx}{a:ASt}{σ:St}(hx:Jv Γ x a.nx ρ)(hr:R x.T ρ a σ){g:FuncId}{args:List AX}{inb:List ABx}{xs:List X}{bxs:List Bx}(hg:GL x.T a.nx ρ args xs)(hb:GBs x.T a.nx ρ inb bxs){c:Ctr}{θl:List (Nat×Lin)}(h:Z9 x a g args inb=some (c,θl)):
  c.f=g∧θl.all (fun q=>blt q.2 a.nx)=true∧c.Res x.T Γ (back (oh θl) ρ) xs bxs:=by
 have hall:∀{θl:List (Nat×Lin)},zf2 a c θl args inb=true→θl.all (fun q=>blt q.2 a.nx)=true:=fun h=>by
  unfold zf2 at h
  simp only [Bool.and_eq_true] at h
  exact h.1.1.1.1.1
 unfold Z9 at h
 dsimp only at h
 split at h
 ·rename_i c' hc
  cases h
  have h1:=List.find?_some hc
  have h2:=List.mem_filter.1 (List.mem_of_find?_eq_some hc)
  exact ⟨Nat.eq_of_beq_eq_true h2.2,hall h1,hx.all c h2.1 _ _ _ (Wv hr hg hb h1)⟩
 ·split at h
  ·rename_i c' hc
   cases h
   have h1:=List.find?_some hc
   have h2:=List.mem_filter.1 (List.mem_of_find?_eq_some hc)
   rw [Bool.and_eq_true] at h1
   refine ⟨Nat.eq_of_beq_eq_true h2.2,hall h1.1,?_⟩
   have h3:=h1.2
   unfold zhk at h3
   split at h3
   ·rename_i l p hl hp
    simp only [Bool.and_eq_true,Bool.or_eq_true] at h3
    obtain ⟨⟨e1,e2⟩,e3⟩:=h3
    obtain ⟨k1,k2⟩:=hx.own l hl
    have d1:=aQ hr.F e2
    rw [Lin.k_v hr.zero,nD] at d1
    refine k2 c h2.1 _ _ _ (Wv hr hg hb h1.1) ⟨p,hp,d1,?_⟩
    rcases e3 with ⟨e3,e4⟩|⟨e3,e4⟩
    ·have d2:=aQ hr.F e3
     rw [Lin.kZ,nD] at d2
     have:=eF e4
     omega
    ·have d2:=aQ hr.F e3
     rw [nD] at d2
     have:=eF e4
     omega
   ·cases h3
  ·cases h
def zfJ (T:Tab)(Γ:Nat→Gam)(ρ:Rho)(a:ASt)(σ:St)(i:I)(outs:List Out):Prop:=
 ∃o,o∈outs∧∃ρ' x bx,More a.nx ρ o.2.1.nx ρ'∧R T ρ' o.2.1 ⟨σ.tm,bx⟩∧G T o.2.1.nx ρ' o.1 x∧∃B,∀N,B≤N→au (Γ N) σ i=some (x,bx,o.2.2)
theorem dB.e {a:ASt}{σ:St}{i:I}{outs:List Out}(h:dB T ρ a σ i outs):zfJ T Γ ρ a σ i outs:=by
 obtain ⟨o,h1,ρ',x,bx,h2,h3,h4,h5⟩:=h
 exact ⟨o,h1,ρ',x,bx,h2,h3,h4,0,fun N _=>h5 _⟩
def ze7 (x:Cx)(a:ASt)(g:FuncId)(caps args as:List AX):Option (List Out):=
 match Z9 x a g (as++caps) [] with
 |some (c,θl)=>nP (c.outs.map fun o=>match (iO a c θl o).1.data (iO a c θl o).2.2.F (iO a c θl o).2.1 false with
  |some y=>if y.refs.isEmpty&&((Ej args).isEmpty||y.plain) then some (y,(iO a c θl o).2.2,⟨false,Ej args,[]⟩) else none
  |none=>none)
 |none=>none
theorem zaF {x:Cx}{a:ASt}{σ:St}(hx:Jv Γ x a.nx ρ)(hr:R x.T ρ a σ){g:FuncId}{caps args as:List AX}{Tj PG xas:List X}(hc:GL x.T a.nx ρ caps Tj)(ha:GL x.T a.nx ρ args PG)(has:GL x.T a.nx ρ as xas){outs:List Out}(h:ze7 x a g caps args as=some outs):
  ∃o,o∈outs∧∃ρ' y,More a.nx ρ o.2.1.nx ρ'∧R x.T ρ' o.2.1 σ∧G x.T o.2.1.nx ρ' o.1 y∧mM y=true∧((fO PG).isEmpty||y.plain)=true∧o.2.2=⟨false,fO PG,[]⟩∧∃B,∀N,B≤N→(Γ N).pureD g (xas++Tj)=some y:=by
 unfold ze7 at h
 split at h
 ·rename_i c θl hf
  obtain ⟨hcf,hθ,o,ho,ρo,r,bx,h1,h2,h3,h4,B,h5⟩:=OO hx hr (has.append hc) .nil hf
  obtain ⟨ρ',k1,k2,k3,k4⟩:=Js hr hθ h1 h2 h3 h4
  obtain ⟨out,hout,hmem⟩:=fJ h ho
  generalize iO a c θl o=q at k1 k2 k3 k4 hout
  obtain ⟨qr,qb,qa⟩:=q
  dsimp only at k1 k2 k3 k4 hout
  split at hout
  ·rename_i y hy
   split at hout
   ·rename_i hc2
    cases hout
    rw [Bool.and_eq_true] at hc2
    obtain ⟨z,hz,hgz⟩:=k3.data k2.F k4 k2.zero hy
    refine ⟨_,hmem,ρ',z,k1,k2,hgz,by unfold mM;rw [hgz.refs];exact hc2.1,?_,by rw [ha.rows],B,fun N hN=>?_⟩
    ·have e:=hc2.2
     rw [Bool.or_eq_true] at e
     rw [ha.rows,Bool.or_eq_true]
     rcases e with e|e
     ·exact .inl e
     ·exact .inr (hgz.plain e)
    ·unfold Gam.pureD
     rw [←hcf,h5 N hN]
     exact hz
   ·cases hout
  ·cases hout
 ·cases h
def qH:List Nat→List ABx→List ABx→List ABx
 |i::r,b::s,bx=>qH r s (bx.set i b)
 |_,_,bx=>bx
theorem yQ:∀{s:List Nat} {l:List ABx} {m:List Bx} {bx:List ABx} {bxs:List Bx},GBs T n ρ l m→GBs T n ρ bx bxs→GBs T n ρ (qH s l bx) (jk s m bxs)
 |[],_,_,_,_,_,hb=>by unfold qH jk;exact hb
 |_::_,_,_,_,_,.nil,hb=>by unfold qH jk;exact hb
 |i::_,_,_,_,_,.cons h1 h2,hb=>by unfold qH jk;exact yQ h2 (hb.set i h1)
theorem BZ:∀(s:List Nat) (l bx:List ABx),(qH s l bx).length=bx.length
 |[],_,_=>by unfold qH;rfl
 |_::_,[],_=>by unfold qH;rfl
 |i::r,b::s,bx=>by unfold qH;rw [BZ,List.length_set]
def zaE (x:Cx)(a:ASt)(g:FuncId)(args:List AX):Option (List Out):=
 let sel:=qJ a.bx gG (oq args) []
 if JE (oq args) sel then match HY a.bx sel with
  |none=>none
  |some inb=>match Z9 x a g (zcz (qE · sel) args) inb with
   |none=>none
   |some (c,θl)=>nP (c.outs.map fun o=>if sel.length≤(iO a c θl o).2.1.length then
     some (((iO a c θl o).1.ren (fun j=>if j<sel.length then sel.getD j 0 else a.bx.length+(j-sel.length))),
      {(iO a c θl o).2.2 with bx:=qH sel ((iO a c θl o).2.1.map (ABx.ren (fun j=>if j<sel.length then sel.getD j 0 else a.bx.length+(j-sel.length)))) a.bx++((iO a c θl o).2.1.map (ABx.ren (fun j=>if j<sel.length then sel.getD j 0 else a.bx.length+(j-sel.length)))).drop sel.length},
      xJ [] sel a.bx.length (a.bx.length+((iO a c θl o).2.1.length-sel.length))) else none)
 else none
theorem O8 {x:Cx}{a:ASt}{σ:St}(hx:Jv Γ x a.nx ρ)(hr:R x.T ρ a σ){g:FuncId}{args:List AX}{PG:List X}(ha:GL x.T a.nx ρ args PG){outs:List Out}(h:zaE x a g args=some outs):
  ∃o,o∈outs∧∃ρ' y bx sel,More a.nx ρ o.2.1.nx ρ'∧R x.T ρ' o.2.1 ⟨σ.tm,bx⟩∧G x.T o.2.1.nx ρ' o.1 y∧o.2.2=xJ [] sel σ.bx.length bx.length∧∃B,∀N,B≤N→gK (Γ N) (.fn g) PG σ.bx=some (y,bx,sel):=by
 unfold zaE at h
 dsimp only at h
 split at h
 ·rename_i hsub
  split at h
  ·cases h
  ·rename_i inb hp
   obtain ⟨q,hq,hgq⟩:=yZ hr.bx hp
   split at h
   ·cases h
   ·rename_i c θl hf
    obtain ⟨hcf,hθ,o,ho,ρo,r,bx,h1,h2,h3,h4,B,h5⟩:=OO hx hr (ha.ren _) hgq hf
    obtain ⟨ρ',k1,k2,k3,k4⟩:=Js hr hθ h1 h2 h3 h4
    obtain ⟨out,hout,hmem⟩:=fJ h ho
    generalize iO a c θl o=w at k1 k2 k3 k4 hout
    obtain ⟨qr,qb,qa⟩:=w
    dsimp only at k1 k2 k3 k4 hout
    split at hout
    ·rename_i hlen
     cases hout
     have hl:=hr.bx.len
     have hlb:=k4.len
     rw [hl] at hmem
     let sel:=qJ a.bx gG (oq args) []
     let bk:=fun j=>if j<sel.length then sel.getD j 0 else σ.bx.length+(j-sel.length)
     have hb2:=k4.ren bk
     refine ⟨_,hmem,ρ',r.ren bk,jk sel (bx.map (Bx.ren bk)) σ.bx++(bx.map (Bx.ren bk)).drop sel.length,sel,k1,⟨k2.zero,k2.pos,k2.F,k2.tm,(yQ hb2 (hr.bx.more k1)).append (hb2.drop _)⟩,k3.ren _,?_,B,fun N hN=>?_⟩
     ·have e1:(jk sel (bx.map (Bx.ren bk)) σ.bx++(bx.map (Bx.ren bk)).drop sel.length).length=σ.bx.length+(qb.length-sel.length):=by
       have:=((yQ (s:=sel) hb2 (hr.bx.more k1)).append (hb2.drop sel.length)).len
       rw [←this,List.length_append,BZ,List.length_drop,List.length_map,hl]
      rw [e1]
     ·unfold gK
      dsimp only
      rw [ha.refs,mD hr.bx,if_pos hsub,hq]
      dsimp only
      rw [←hcf,h5 N hN]
      dsimp only
      rw [if_pos (by rw [←hlb];exact hlen)]
    ·cases hout
 ·cases h
def opC (x:Cx)(a:ASt)(i:I):Option (List Out):=match i with
 |.call own ref raw f args=>match a.ev f,zeU a args with
  |some (.fn g caps),some ys=>if ref then zaE x a g (ys++caps) else match Md a.F a.bx raw ys with
   |none=>none
   |some as=>if !own&&(oq (as++caps)).isEmpty then ze7 x a g caps ys as
    else if (Ej ys).isEmpty then zaE x a g (as++caps) else none
  |_,_=>none
 |i=>opA x.T x.K a i
theorem zg7 {x:Cx}{a:ASt}{σ:St}{i:I}{outs:List Out}(hx:Jv Γ x a.nx ρ)(hr:R x.T ρ a σ)(h:opC x a i=some outs):zfJ x.T Γ ρ a σ i outs:=by
 unfold opC at h
 split at h
 ·rename_i own ref raw f args
  split at h
  ·rename_i g caps ys e1 e2
   obtain ⟨xf,hf,gf⟩:=bK hr e1
   obtain ⟨xs,hxs,gxs⟩:=Fq hr e2
   cases gf with
   |fn gc=>
    rename_i Tj
    split at h
    ·rename_i href
     obtain ⟨o,ho,ρ',y,bx,sel,k1,k2,k3,k4,B,k5⟩:=O8 hx hr (gxs.append gc) h
     refine ⟨o,ho,ρ',y,bx,k1,k2,k3,B,fun N hN=>?_⟩
     simp only [au,hf,hxs,qY,href,if_true,Bool.not_true,Bool.and_false,Bool.false_and,Bool.false_eq_true,if_false,Bool.true_or,k5 N hN,k4]
    ·rename_i href
     have href:ref=false:=by cases ref with|true=>exact absurd rfl href|false=>rfl
     subst href
     split at h
     ·cases h
     ·rename_i as hd
      obtain ⟨zs,hz,gz⟩:=gxs.data hr.F hr.bx hr.zero hd
      have hrefs:=(gz.append gc).refs
      split at h
      ·rename_i hc
       rw [Bool.and_eq_true] at hc
       obtain ⟨o,ho,ρ',y,k1,k2,k3,k4,k5,k6,B,k7⟩:=zaF hx hr gc gxs gz h
       refine ⟨o,ho,ρ',y,σ.bx,k1,k2,k3,B,fun N hN=>?_⟩
       have e3:(!own&&!false&&(bM (zs++Tj)).isEmpty)=true:=by rw [hrefs,hc.1,hc.2];rfl
       simp only [au,hf,hxs,qY,Bool.false_eq_true,if_false,hz,e3,if_true,k7 N hN,k4,k5,Bool.and_self,k6]
      ·rename_i hc
       split at h
       ·rename_i hrows
        obtain ⟨o,ho,ρ',y,bx,sel,k1,k2,k3,k4,B,k5⟩:=O8 hx hr (gz.append gc) h
        refine ⟨o,ho,ρ',y,bx,k1,k2,k3,B,fun N hN=>?_⟩
        have e3:¬(!own&&!false&&(bM (zs++Tj)).isEmpty)=true:=by
         rw [hrefs];simpa using hc
        have e4:(false||(fO xs).isEmpty)=true:=by rw [gxs.rows,hrows];rfl
        simp only [au,hf,hxs,qY,Bool.false_eq_true,if_false,hz]
        rw [if_neg e3,if_pos e4,k5 N hN,k4]
       ·cases h
  ·cases h
 ·exact (zg8 hr h).e
end Go.Ab
namespace Go.Ab
open Go.Em
variable {T:Tab} {n m:Nat} {ρ ρ':Rho} {Γ:Nat→Gam}
def ziM (T:Tab)(k m:Nat):Bool:=(T k).all fun alt=>Nat.beq alt.length m
theorem Xy {P:Nat→List X→Prop}:∀{ts:List ET} {xs:List X},ETs P ts xs→ts.length=xs.length
 |[],[],_=>rfl
 |_::_,_::_,h=>by rw [List.length_cons,List.length_cons,Xy h.2]
theorem Ky {k m:Nat}{h:Int}{xs:List X}(hl:ziM T k m=true)(hd:D T h k xs):xs.length=m:=by
 obtain ⟨_,alt,ha,hs⟩:=qG hd
 rw [←Xy hs]
 exact Nat.eq_of_beq_eq_true (List.all_eq_true.1 hl alt ha)
theorem GBs.zmh:∀{l:List ABx} {m:List Bx} {i:Nat} {a:ABx} {x:Bx},GBs T n ρ l m→m[i]?=some x→GB T n ρ a x→GBs T n ρ (l.set i a) m
 |_,_,i,_,_,.nil,e,_=>by simp at e
 |_,_,0,_,_,.cons _ h2,e,hx=>by simp at e;subst e;exact .cons hx h2
 |_,_,i+1,_,_,.cons h1 h2,e,hx=>.cons h1 (h2.zmh (by simpa using e) hx)
def Ud (T:Tab)(a:ASt)(m:Option Nat)(i o k:Nat)(h:Lin):Option (List Out):=
 nP ((VE T a k h).map fun q=>(takeA m (q.1.drop o)).map fun y=>(y,{q.2 with bx:=q.2.bx.set i (.var q.1)},⟨false,[i],[]⟩))
def opL (T:Tab)(a:ASt):I→Option (List Out)
 |.iaddr none sz x j=>match a.ev x,a.ev j with
  |some (.sl _ s k h len),some (.i _ l)=>if Nat.blt 1 (T k).length&&nonneg a.F l&&Nat.beq s sz&&leL a.F (l.up 1) len then some [(.de k h,a,fp0)] else none
  |_,_=>none
 |.load m p=>match a.ev p with
  |some (.de k h)=>match m with
   |some m=>if ziM T k m then some [(.el k h,a,⟨false,[],[]⟩)] else none
   |none=>none
  |some (.ptr i e o)=>match a.bx[i]? with
   |some (.el k h)=>if XG e then (match m with
    |some w=>if Nat.beq o 0&&ziM T k w then some [(.el k h,a,⟨false,[i],[]⟩)] else Ud T a m i o k h
    |none=>Ud T a m i o k h) else none
   |_=>none
  |_=>none
 |.store m p x=>match a.ev p,a.ev x with
  |some (.ptr i e 0),some (.el k h)=>match a.bx[i]? with
   |some (.var cs)=>if XG e&&ziM T k m&&Nat.beq cs.length m then some [(Np,{a with bx:=a.bx.set i (.el k h)},⟨true,[],[i]⟩)] else none
   |_=>none
  |_,_=>none
 |.box x=>match a.ev x with
  |some (.el k h)=>some [(.ptr a.bx.length (.k 0) 0,{a with bx:=a.bx++[.el k h]},⟨true,[],[a.bx.length]⟩)]
  |_=>none
 |_=>none
theorem Gy {a:ASt}{σ:St}{m:Option Nat}{i o k:Nat}{h:Lin}{outs:List Out}{p:Opd}(hr:R T ρ a σ)(hb:a.bx[i]?=some (.el k h))(hp:σ.ev p=some (.ptr i 0 o))(he:Ud T a m i o k h=some outs):dB T ρ a σ (.load m p) outs:=by
 obtain ⟨b,hb',hg⟩:=hr.bx.get hb
 cases hg with
 |el q1 q2=>
  rename_i xs
  obtain ⟨q,hq,ρ',m1,m2,m3⟩:=yh hr q1 q2
  obtain ⟨r,hr',hrm⟩:=fJ he hq
  obtain ⟨y,hy,rfl⟩:=Option.map_eq_some_iff.1 hr'
  obtain ⟨x,hx,hgx⟩:=xO (m3.drop o) hy
  refine ⟨_,hrm,ρ',x,σ.bx,m1,⟨m2.zero,m2.pos,m2.F,m2.tm,m2.bx.zmh hb' (.var m3)⟩,hgx,fun Γ=>?_⟩
  have hc:iL σ (.ptr i 0 o)=some (xs.drop o):=by simp only [iL,hb'];rfl
  have:lN σ m (.ptr i 0 o)=some x:=by
   unfold lN
   rw [hc]
   exact hx
  simp only [au,hp,this,Option.map_some]
  rfl
theorem zg6 {a:ASt}{σ:St}{i:I}{outs:List Out}(hr:R T ρ a σ)(h:opL T a i=some outs):dB T ρ a σ i outs:=by
 unfold opL at h
 split at h
 ·rename_i sz x j
  split at h
  ·rename_i t s k hh len kd l e1 e2
   split at h
   ·rename_i hc
    cases h
    simp only [Bool.and_eq_true] at hc
    obtain ⟨⟨⟨_,c1⟩,c2⟩,c3⟩:=hc
    obtain ⟨xv,hx,gx⟩:=bK hr e1
    obtain ⟨jv,hj,gj⟩:=bK hr e2
    have h0:=iy hr c1
    have hj':=zK gj h0
    have zkf:((l.v ρ).toNat:Int)=l.v ρ:=Int.toNat_of_nonneg h0
    generalize (l.v ρ).toNat=w at hj' zkf
    have c4:=aQ hr.F c3
    rw [Lin.kZ] at c4
    have c5:=Nat.eq_of_beq_eq_true c2
    subst c5
    cases gx with
    |sl q1 q2 q3 q4 q5=>
     rename_i tt es
     obtain ⟨v,hv,hmem⟩:=jC (l:=es) (i:=w) (by omega)
     exact .one hr (.de q1 (q5 v hmem)) (fun Γ=>by simp only [au,hx,hj,Option.bind_some,hj',beq_self_eq_true,if_true,hv,Option.map_some];rfl)
   ·cases h
  ·cases h
 ·rename_i m p
  split at h
  ·rename_i k hh e1
   split at h
   ·rename_i w
    split at h
    ·rename_i hc
     cases h
     obtain ⟨xv,hx,gx⟩:=bK hr e1
     cases gx with
     |de q1 q2=>
      rename_i xs
      have hl:=Ky hc q2
      refine .one hr (.el q1 q2) (fun Γ=>?_)
      have:lN σ (some w) (.dp xs)=some (.agg xs):=by
       unfold lN iL
       dsimp only
       rw [←hl,List.take_length,if_pos (beq_self_eq_true _)]
      simp only [au,hx,this,Option.map_some]
      rfl
    ·cases h
   ·cases h
  ·rename_i i e o e1
   split at h
   ·rename_i k hh hb
    split at h
    ·rename_i hz
     obtain ⟨xv,hx,gx⟩:=bK hr e1
     cases gx with
     |ptr p1 p2=>
      rename_i e'
      have h0:=o7 hz hr.zero
      have:e'=0:=by omega
      subst this
      split at h
      ·rename_i w
       split at h
       ·rename_i hc
        cases h
        rw [Bool.and_eq_true] at hc
        have ho:=Nat.eq_of_beq_eq_true hc.1
        subst ho
        obtain ⟨b,hb',hg⟩:=hr.bx.get hb
        cases hg with
        |el q1 q2=>
         rename_i xs
         have hl:=Ky hc.2 q2
         refine .one hr (.el q1 q2) (fun Γ=>?_)
         have hcs:iL σ (.ptr i 0 0)=some xs:=by simp only [iL,hb'];rfl
         have:lN σ (some w) (.ptr i 0 0)=some (.agg xs):=by
          unfold lN
          rw [hcs]
          dsimp only
          rw [←hl,List.take_length,if_pos (beq_self_eq_true _)]
         simp only [au,hx,this,Option.map_some]
         rfl
       ·exact Gy hr hb hx h
      ·exact Gy hr hb hx h
    ·cases h
   ·cases h
  ·cases h
 ·rename_i m p x
  split at h
  ·rename_i i e k hh e1 e2
   split at h
   ·rename_i cs hb
    split at h
    ·rename_i hc
     cases h
     simp only [Bool.and_eq_true] at hc
     obtain ⟨⟨c1,c2⟩,c3⟩:=hc
     obtain ⟨pv,hp,gp⟩:=bK hr e1
     obtain ⟨xv,hx,gx⟩:=bK hr e2
     cases gp with
     |ptr p1 p2=>
      rename_i e'
      have h0:=o7 c1 hr.zero
      have:e'=0:=by omega
      subst this
      cases gx with
      |el q1 q2=>
       rename_i xs
       have hl:=Ky c2 q2
       obtain ⟨b,hb',hg⟩:=hr.bx.get hb
       cases hg with
       |var hg=>
        rename_i ys
        have hly:ys.length=xs.length:=by rw [←hg.len,Nat.eq_of_beq_eq_true c3,hl]
        refine ⟨_,List.mem_singleton.2 rfl,ρ,undefX,σ.bx.set i (.var xs),.refl ..,⟨hr.zero,hr.pos,hr.F,hr.tm,hr.bx.set i (.el q1 q2)⟩,.x rfl,fun Γ=>?_⟩
        have hs:splice ys 0 xs=some xs:=by
         unfold splice
         rw [if_pos (by omega),List.take_zero,List.drop_of_length_le (by omega)]
         simp
        have:jm σ.bx m (.ptr i 0 0) (.agg xs)=some (σ.bx.set i (.var xs)):=by
         unfold jm
         rw [if_pos (by simp only [X.ok1,X.cells,hl,beq_self_eq_true,Bool.and_self])]
         dsimp only
         rw [hb']
         dsimp only
         rw [if_pos (show (0==0)=true from rfl)]
         show (splice ys 0 xs).map _=_
         rw [hs];rfl
        simp only [au,hp,hx,this,Option.map_some]
        rfl
    ·cases h
   ·cases h
  ·cases h
 ·rename_i x
  split at h
  ·rename_i k hh e1
   cases h
   obtain ⟨xv,hx,gx⟩:=bK hr e1
   cases gx with
   |el q1 q2=>
    rename_i xs
    refine ⟨_,List.mem_singleton.2 rfl,ρ,.ptr σ.bx.length 0 0,σ.bx++[.var xs],.refl ..,⟨hr.zero,hr.pos,hr.F,hr.tm,hr.bx.snoc (.el q1 q2)⟩,?_,fun Γ=>?_⟩
    ·rw [hr.bx.len];exact .ptr hr.pos (Lin.k_v hr.zero 0).symm
    ·simp only [au,hx,X.ok1,if_true,X.cells];rw [hr.bx.len]
  ·cases h
 ·cases h
def opX (x:Cx)(a:ASt)(i:I):Option (List Out):=match opL x.T a i with
 |some l=>some l
 |none=>opC x a i
theorem zg4 {x:Cx}{a:ASt}{σ:St}{i:I}{outs:List Out}(hx:Jv Γ x a.nx ρ)(hr:R x.T ρ a σ)(h:opX x a i=some outs):zfJ x.T Γ ρ a σ i outs:=by
 unfold opX at h
 split at h
 ·rename_i l hl
  cases h
  exact (zg6 hr hl).e
 ·exact zg7 hx hr h
end Go.Ab
namespace Go.Ab
open Go.Em
variable {T:Tab} {n m:Nat} {ρ ρ':Rho} {Γ:Nat→Gam}
def setSlot:List (Nat×AX)→Nat→AX→List (Nat×AX)
 |[],_,_=>[]
 |(k,x)::r,s,y=>if k==s then (k,y)::r else (k,x)::setSlot r s y
theorem uM:∀{l:List (Nat×AX)} {m:List (Nat×X)} {s:Nat} {y:AX} {x:X},GT T n ρ l m→lk m s=some x→G T n ρ y x→GT T n ρ (setSlot l s y) m
 |_,_,_,_,_,.nil,_,_=>.nil
 |_,_,s,y,x,.cons (k:=k) g1 g2,h,hg=>by
  unfold lk at h
  unfold setSlot
  split at h
  ·rename_i hk;cases h;rw [if_pos hk];exact .cons hg g2
  ·rename_i hk;rw [if_neg hk];exact .cons g1 (uM g2 h hg)
def zcg (d:Option Nat)(x:AX)(tm:List (Nat×AX)):List (Nat×AX):=match d with
 |none=>tm
 |some d=>(d,x)::tm
theorem NG {d:Option Nat}{y:AX}{x:X}{l:List (Nat×AX)}{m:List (Nat×X)}(h:GT T n ρ l m)(hg:G T n ρ y x):GT T n ρ (zcg d y l) (uN d x m):=by
 cases d with
 |none=>exact h
 |some d=>exact .cons hg h
abbrev zf5:=ASt×FP
def goE (x:Cx)(a:ASt)(i:Ins):Option (List zf5):=(opX x a i.op).map fun outs=>outs.map fun o=>({o.2.1 with tm:=zcg i.dst o.1 o.2.1.tm},o.2.2)
def zcb (a:ASt)(i:Ins):zf5:=({a with tm:=zcg i.dst Np a.tm},fp0)
def zii (T:Tab)(Γ:Nat→Gam)(ρ:Rho)(a:ASt)(σ:St)(i:Ins)(outs:List zf5):Prop:=
 ∃q,q∈outs∧∃ρ' σ',More a.nx ρ q.1.nx ρ'∧R T ρ' q.1 σ'∧∃B,∀N,B≤N→Em.step (Γ N) i σ=some (σ',q.2)
theorem zbq {x:Cx}{a:ASt}{σ:St}{i:Ins}{outs:List zf5}(hx:Jv Γ x a.nx ρ)(hr:R x.T ρ a σ)(h:goE x a i=some outs):∃q,q∈outs∧∃ρ' σ',More a.nx ρ q.1.nx ρ'∧R x.T ρ' q.1 σ'∧∃B,∀N,B≤N→oC (Γ N) i σ=some (σ',q.2):=by
 obtain ⟨os,ho,rfl⟩:=Option.map_eq_some_iff.1 h
 obtain ⟨o,hm,ρ',y,bx,k1,k2,k3,B,k4⟩:=zg4 hx hr ho
 exact ⟨_,List.mem_map.2 ⟨o,hm,rfl⟩,ρ',⟨uN i.dst y σ.tm,bx⟩,k1,⟨k2.zero,k2.pos,k2.F,NG k2.tm k3,k2.bx⟩,B,fun N hN=>by unfold oC;rw [k4 N hN]⟩
theorem NC {a:ASt}{σ:St}{i:Ins}(hr:R T ρ a σ):R T ρ (zcb a i).1 ⟨uN i.dst undefX σ.tm,σ.bx⟩:=⟨hr.zero,hr.pos,hr.F,NG hr.tm (.x rfl),hr.bx⟩
def zb6 (x:Cx)(a:ASt)(i:Ins):Option (List zf5):=match i.g with
 |none=>goE x a i
 |some (s,want)=>match lkA a.tm s with
  |some (.b tf ff)=>
   match (match assume a (if want then tf else ff) with
    |some a'=>goE x {a' with tm:=setSlot a'.tm s (cb want)} i
    |none=>some []) with
   |none=>none
   |some l=>some (l++match assume a (if want then ff else tf) with
    |some a'=>[zcb {a' with tm:=setSlot a'.tm s (cb (!want))} i]
    |none=>[])
  |some (.x (.v (.tuple _)))=>some [zcb a i]
  |_=>none
theorem Yx {x:Cx}{a:ASt}{σ:St}{i:Ins}{outs:List zf5}(hx:Jv Γ x a.nx ρ)(hr:R x.T ρ a σ)(h:zb6 x a i=some outs):zii x.T Γ ρ a σ i outs:=by
 unfold zb6 at h
 split at h
 ·rename_i hg
  obtain ⟨q,h1,ρ',σ',k1,k2,B,k3⟩:=zbq hx hr h
  exact ⟨q,h1,ρ',σ',k1,k2,B,fun N hN=>by unfold Em.step;rw [hg];exact k3 N hN⟩
 ·rename_i s want hg
  split at h
  ·rename_i tf ff hl
   obtain ⟨y,hy,gy⟩:=iM hr.tm hl
   cases gy with
   |b h1 h2=>
    rename_i t
    split at h
    ·cases h
    ·rename_i l hgo
     cases h
     by_cases hw:t=want
     ·subst hw
      have hf:aW a.nx ρ (if t then tf else ff):=by
       cases t with
       |true=>exact h1 rfl
       |false=>exact h2 rfl
      obtain ⟨a',e1,e2,e3⟩:=ji hr hf
      rw [e1] at hgo
      have hr2:R x.T ρ {a' with tm:=setSlot a'.tm s (cb t)} σ:=⟨e2.zero,e2.pos,e2.F,uM e2.tm hy (xM t),e2.bx⟩
      have hx2:Jv Γ x a'.nx ρ:=by rw [e3];exact hx
      obtain ⟨q,p1,ρ',σ',k1,k2,B,k3⟩:=zbq (a:={a' with tm:=setSlot a'.tm s (cb t)}) hx2 hr2 hgo
      refine ⟨q,List.mem_append_left _ p1,ρ',σ',⟨by have h9:a'.nx≤q.1.nx:=k1.le;omega,fun u hu=>k1.same u (by show u<a'.nx;omega)⟩,k2,B,fun N hN=>?_⟩
      unfold Em.step
      rw [hg]
      dsimp only
      rw [hy]
      dsimp only
      rw [if_pos (beq_self_eq_true t)]
      exact k3 N hN
     ·have hf:aW a.nx ρ (if want then ff else tf):=by
       cases want with
       |true=>exact h2 (by cases t with|true=>exact absurd rfl hw|false=>rfl)
       |false=>exact h1 (by cases t with|true=>rfl|false=>exact absurd rfl hw)
      obtain ⟨a',e1,e2,e3⟩:=ji hr hf
      have ht:t=!want:=by cases t<;>cases want<;>first|rfl|exact absurd rfl hw
      have hr2:R x.T ρ {a' with tm:=setSlot a'.tm s (cb (!want))} σ:=⟨e2.zero,e2.pos,e2.F,uM e2.tm hy (ht▸xM t),e2.bx⟩
      refine ⟨_,List.mem_append_right _ (by rw [e1];exact List.mem_singleton.2 rfl),ρ,_,⟨by show a.nx≤a'.nx;omega,fun _ _=>rfl⟩,NC hr2,0,fun N _=>?_⟩
      unfold Em.step
      rw [hg]
      dsimp only
      rw [hy]
      dsimp only
      rw [if_neg (by rw [beq_iff_eq];exact hw)]
      rfl
  ·rename_i v hl
   cases h
   obtain ⟨y,hy,gy⟩:=iM hr.tm hl
   cases gy
   refine ⟨_,List.mem_singleton.2 rfl,ρ,_,.refl ..,NC hr,0,fun N _=>?_⟩
   unfold Em.step
   rw [hg]
   dsimp only
   rw [hy]
   rfl
  ·cases h
abbrev zl8:=ASt×List FP
def Gx (x:Cx):List Ins→ASt→Option (List zl8)
 |[],a=>some [(a,[])]
 |i::r,a=>match zb6 x a i with
  |none=>none
  |some outs=>(nP (outs.map fun q=>(Gx x r q.1).map fun l=>l.map fun w=>((w.1,q.2::w.2):zl8))).map List.flatten
theorem Gw {x:Cx}:∀{l:List Ins} {ρ:Rho} {a:ASt} {σ:St} {outs:List zl8},Jv Γ x a.nx ρ→R x.T ρ a σ→Gx x l a=some outs→
  ∃q,q∈outs∧∃ρ' σ',More a.nx ρ q.1.nx ρ'∧R x.T ρ' q.1 σ'∧∃B,∀N,B≤N→steps (Γ N) l σ=some (σ',q.2)
 |[],ρ,a,σ,outs,hx,hr,h=>by
  simp only [Gx,Option.some.injEq] at h
  subst h
  exact ⟨_,List.mem_singleton.2 rfl,ρ,σ,.refl ..,hr,0,fun N _=>rfl⟩
 |i::r,ρ,a,σ,outs,hx,hr,h=>by
  unfold Gx at h
  split at h
  ·cases h
  ·rename_i os ho
   obtain ⟨ls,hls,rfl⟩:=Option.map_eq_some_iff.1 h
   obtain ⟨q,hq,ρ1,σ1,k1,k2,B1,k3⟩:=Yx hx hr ho
   obtain ⟨l,hl,hlm⟩:=fJ hls hq
   obtain ⟨l',hl',rfl⟩:=Option.map_eq_some_iff.1 hl
   obtain ⟨w,hw,ρ2,σ2,p1,p2,B2,p3⟩:=Gw (hx.more k1) k2 hl'
   refine ⟨_,List.mem_flatten.2 ⟨_,hlm,List.mem_map.2 ⟨w,hw,rfl⟩⟩,ρ2,σ2,k1.trans p1,p2,max B1 B2,fun N hN=>?_⟩
   unfold steps
   rw [k3 N (by omega)]
   dsimp only
   rw [p3 N (by omega)]
   rfl
def keepA (live:List Nat)(tm:List (Nat×AX)):List (Nat×AX):=live.filterMap fun k=>(lkA tm k).map fun x=>(k,x)
theorem Oo {l:List (Nat×AX)}{m:List (Nat×X)}(h:GT T n ρ l m):∀(live:List Nat),GT T n ρ (keepA live l) (keep live m)
 |[]=>.nil
 |k::r=>by
  have ih:=Oo h r
  unfold keepA keep at ih ⊢
  cases hl:lkA l k with
  |none=>
   rw [List.filterMap_cons_none (by rw [hl];rfl),List.filterMap_cons_none (by rw [qc h hl];rfl)]
   exact ih
  |some y=>
   obtain ⟨x,hx,hg⟩:=iM h hl
   rw [List.filterMap_cons_some (b:=(k,y)) (by rw [hl];rfl),List.filterMap_cons_some (b:=(k,x)) (by rw [hx];rfl)]
   exact .cons hg ih
def S9 (l:Lin)(acc:Nat):Nat:=Nat.lor acc (Nat.shiftLeft 1 l.s)
def zlz:List Fact→Nat→Nat
 |[],acc=>acc
 |f::r,acc=>zlz r (Nat.lor (Nat.lor acc (Nat.shiftLeft 1 f.x)) (Nat.shiftLeft 1 f.y))
mutual
def zjd:AX→Nat→Nat
 |.i _ l,acc=>S9 l acc
 |.b t u,acc=>zlz t (zlz u acc)
 |.s l,acc=>S9 l acc
 |.sl _ _ _ h l,acc=>S9 h (S9 l acc)
 |.bs _ o l,acc=>S9 o (S9 l acc)
 |.ptr _ e _,acc=>S9 e acc
 |.dp cs,acc=>RY cs acc
 |.fn _ cs,acc=>RY cs acc
 |.agg cs,acc=>RY cs acc
 |.tup cs,acc=>RY cs acc
 |.el _ h,acc=>S9 h acc
 |.de _ h,acc=>S9 h acc
 |_,acc=>acc
def RY:List AX→Nat→Nat
 |[],acc=>acc
 |a::r,acc=>RY r (zjd a acc)
end
def ze8:List ABx→Nat→Nat
 |[],acc=>acc
 |.var cs::r,acc=>ze8 r (RY cs acc)
 |.row _ _ h l::r,acc=>ze8 r (S9 h (S9 l acc))
 |.loop _ _ tm _ _ _::r,acc=>ze8 r (tm.foldl (fun c q=>zjd q.2 c) acc)
 |.map es::r,acc=>ze8 r (es.foldl (fun c q=>zjd q.2 c) acc)
 |.dead::r,acc=>ze8 r acc
 |.el _ h::r,acc=>ze8 r (S9 h acc)
def through (u:Nat)(F:List Fact):List Fact:=F.flatMap fun f=>if u.testBit f.x&&!u.testBit f.y then
 F.filterMap fun g=>if Nat.beq f.y g.x&&u.testBit g.y&&!Nat.beq f.x g.y then some ⟨f.x,g.y,f.c+g.c⟩ else none else []
theorem PS {n u:Nat}{F:List Fact}(h:aW n ρ F):aW n ρ (through u F):=fun k hk=>by
 obtain ⟨f,hf,hk⟩:=List.mem_flatMap.1 hk
 split at hk
 ·obtain ⟨g,hg,hk⟩:=List.mem_filterMap.1 hk
  split at hk
  ·rename_i hc
   simp only [Bool.and_eq_true] at hc
   have e:=Nat.eq_of_beq_eq_true hc.1.1
   cases hk
   obtain ⟨f1,f2,f3⟩:=h f hf
   obtain ⟨g1,g2,g3⟩:=h g hg
   refine ⟨f1,g2,?_⟩
   dsimp only
   rw [e] at f3
   omega
  ·cases hk
 ·cases hk
def prune (base:Nat)(a:ASt):ASt:=
 let u:=ze8 a.bx (a.tm.foldl (fun c q=>zjd q.2 c) base)
 {a with F:=(a.F.filter fun f=>u.testBit f.x&&u.testBit f.y)++through u a.F}
theorem YR {base:Nat}{a:ASt}{σ:St}(hr:R T ρ a σ):R T ρ (prune base a) σ:=⟨hr.zero,hr.pos,fun f hf=>(List.mem_append.1 hf).elim (fun hf=>hr.F f (List.mem_filter.1 hf).1) (fun hf=>PS hr.F f hf),hr.tm,hr.bx⟩
end Go.Ab
namespace Go.Ab
open Go.Em
variable {T:Tab} {n m:Nat} {ρ ρ':Rho} {Γ:Nat→Gam}
def tight (F:List Fact):AX→Option (Option Nat)
 |.x (.sl true sz [])=>some (some sz)
 |.sl (some false) _ _ _ _=>some none
 |.sl (some true) sz _ _ l=>if leL F l (.k 0) then some (some sz) else if leL F (.k 1) l then some none else none
 |.sl none _ _ _ l=>if leL F (.k 1) l then some none else none
 |_=>some none
theorem Nu {F:List Fact}(h0:ρ 0=0)(hF:aW n ρ F){y:AX}{x:X}(hg:G T n ρ y x):(∀sz,tight F y=some (some sz)→x=.sl true sz [])∧(tight F y=some none→∀sz,x≠.sl true sz []):=by
 have len1:∀{l:Lin} {es:List (List X)},(es.length:Int)=l.v ρ→leL F (.k 1) l=true→es≠[]:=fun {l es} h1 h2 e=>by
  have:=aQ hF h2
  rw [Lin.k_v h0] at this
  subst e
  simp at h1;omega
 unfold tight
 split
 ·cases hg;exact ⟨fun sz h=>by cases h;rfl,fun h=>by cases h⟩
 ·cases hg with
  |sl q1 q2 q3 q4 q5=>
   have:=q3
   unfold zX at this
   subst this
   exact ⟨(fun sz h=>by cases h),(fun _ sz e=>by cases e)⟩
 ·rename_i sz k hh l
  cases hg with
  |sl q1 q2 q3 q4 q5=>
   have:=q3
   unfold zX at this
   subst this
   split
   ·rename_i hc
    have c:=aQ hF hc
    rw [Lin.k_v h0] at c
    rename_i es
    have:es=[]:=List.eq_nil_of_length_eq_zero (by omega)
    subst this
    exact ⟨fun sz h=>by cases h;rfl,fun h=>by cases h⟩
   ·split
    ·rename_i hc
     exact ⟨fun sz h=>(by cases h),fun _ sz e=>len1 q4 hc (by cases e;rfl)⟩
    ·exact ⟨fun sz h=>(by cases h),fun h=>by cases h⟩
 ·cases hg with
  |sl q1 q2 q3 q4 q5=>
   split
   ·rename_i hc
    exact ⟨fun sz h=>(by cases h),fun _ sz e=>len1 q4 hc (by cases e;rfl)⟩
   ·exact ⟨fun sz h=>(by cases h),fun h=>by cases h⟩
 ·rename_i h1 h2 h3 h4
  refine ⟨fun sz h=>(by cases h),fun _ sz e=>?_⟩
  subst e
  cases hg with
  |x _=>exact h1 _ rfl
  |sl q1 q2 q3 q4 q5=>
   rename_i t k hh l
   cases t with
   |none=>exact h4 _ _ _ _ rfl
   |some b=>cases b with
    |false=>exact h2 _ _ _ _ rfl
    |true=>exact h3 _ _ _ _ rfl
def FB (sz:Nat):ABx:=.row sz 0 (.k 0) (.k 0)
theorem Aa (h0:ρ 0=0)(hn:0<n)(sz:Nat):GB T n ρ (FB sz) (.row sz []):=.row hn hn (by rw [Lin.k_v h0];rfl) (fun e he=>by cases he)
mutual
def AX.within (F:List Fact)(i:Nat)(rl:Lin):AX→Bool
 |.bs j o l=>if Nat.beq j i then (match SK o l with|some e=>leL F e rl|none=>false) else true
 |.agg cs=>iP F i rl cs
 |.tup cs=>iP F i rl cs
 |.fn _ cs=>iP F i rl cs
 |_=>true
def iP (F:List Fact)(i:Nat)(rl:Lin):List AX→Bool
 |[]=>true
 |x::r=>x.within F i rl&&iP F i rl r
end
mutual
def AX.frz (i sz k:Nat)(h:Lin):AX→AX
 |.bs j o l=>if j==i then .sl (some false) sz k h l else .bs j o l
 |.agg cs=>.agg (Rl i sz k h cs)
 |.tup cs=>.tup (Rl i sz k h cs)
 |.fn g cs=>.fn g (Rl i sz k h cs)
 |.i k l=>.i k l
 |.b t u=>.b t u
 |.s l=>.s l
 |.x x=>.x x
 |.sl t sz k h l=>.sl t sz k h l
 |.ptr i e o=>.ptr i e o
 |.dp cs=>.dp cs
 |.yl i=>.yl i
 |.mp i=>.mp i
 |.rE=>.rE
 |.el k h=>.el k h
 |.de k h=>.de k h
def Rl (i sz k:Nat)(h:Lin):List AX→List AX
 |[]=>[]
 |x::r=>x.frz i sz k h::Rl i sz k h r
end
mutual
theorem yA (i c:Nat):∀(x:X),x.refs=[]→x.within i c=true
 |.bs _ _ _,h=>by simp [X.refs] at h
 |.agg cs,h=>gQ i c cs h
 |.tup cs,h=>gQ i c cs h
 |.fn _ cs,h=>gQ i c cs h
 |.v _,_=>rfl
 |.sl _ _ _,_=>rfl
 |.ptr _ _ _,_=>rfl
 |.dp _,_=>rfl
 |.yl _,_=>rfl
 |.mp _,_=>rfl
 |.ifc,_=>rfl
theorem gQ (i c:Nat):∀(xs:List X),bM xs=[]→gq i c xs=true
 |[],_=>rfl
 |x::r,h=>by
  have h:x.refs++bM r=[]:=h
  obtain ⟨h1,h2⟩:=List.append_eq_nil_iff.1 h
  show (x.within i c&&gq i c r)=true
  rw [yA i c x h1,gQ i c r h2];rfl
end
mutual
theorem EY (i sz:Nat)(es:List (List X)):∀(x:X),x.refs=[]→x.frz i sz es=x
 |.bs _ _ _,h=>by simp [X.refs] at h
 |.agg cs,h=>by show X.agg (OI i sz es cs)=_;rw [o9 i sz es cs h]
 |.tup cs,h=>by show X.tup (OI i sz es cs)=_;rw [o9 i sz es cs h]
 |.fn g cs,h=>by show X.fn g (OI i sz es cs)=_;rw [o9 i sz es cs h]
 |.v _,_=>rfl
 |.sl _ _ _,_=>rfl
 |.ptr _ _ _,_=>rfl
 |.dp _,_=>rfl
 |.yl _,_=>rfl
 |.mp _,_=>rfl
 |.ifc,_=>rfl
theorem o9 (i sz:Nat)(es:List (List X)):∀(xs:List X),bM xs=[]→OI i sz es xs=xs
 |[],_=>rfl
 |x::r,h=>by
  have h:x.refs++bM r=[]:=h
  obtain ⟨h1,h2⟩:=List.append_eq_nil_iff.1 h
  show x.frz i sz es::OI i sz es r=_
  rw [EY i sz es x h1,o9 i sz es r h2]
end
section
variable {F:List Fact} {i sz k:Nat} {hh rl:Lin} {es:List (List X)}
mutual
theorem G.within (h0:ρ 0=0)(hF:aW n ρ F)(hl:(es.length:Int)=rl.v ρ):∀{a:AX} {x:X},G T n ρ a x→a.within F i rl=true→x.within i es.length=true
 |.bs j o l,.bs _ o' l',.bs q1 q2 q3 q4,h=>by
  unfold AX.within at h
  unfold X.within
  split at h
  ·rename_i hj
   have hj:=Nat.eq_of_beq_eq_true hj
   subst hj
   split at h
   ·rename_i e he
    have c:=aQ hF h
    rw [nR h0 he] at c
    simp only [beq_self_eq_true,Bool.not_true,Bool.false_or,decide_eq_true_eq]
    omega
   ·cases h
  ·rename_i hj
   have:(j==i)=false:=by rw [beq_eq_false_iff_ne];intro e;exact hj (by rw [e];exact Nat.beq_refl i)
   rw [this];rfl
 |_,_,.agg q,h=>GL.within h0 hF hl q h
 |_,_,.tup q,h=>GL.within h0 hF hl q h
 |_,_,.fn q,h=>GL.within h0 hF hl q h
 |_,_,.x q,_=>yA _ _ _ q
 |_,_,.i _ _,_=>rfl
 |_,_,.b _ _,_=>rfl
 |_,_,.s _ _,_=>rfl
 |_,_,.sl _ _ _ _ _,_=>rfl
 |_,_,.ptr _ _,_=>rfl
 |_,_,.dp _,_=>rfl
 |_,_,.yl,_=>rfl
 |_,_,.mp,_=>rfl
 |_,_,.ifc,_=>rfl
 |_,_,.CX,_=>rfl
 |_,_,.el _ h,_=>gQ _ _ _ (nX h)
 |_,_,.de _ _,_=>rfl
theorem GL.within (h0:ρ 0=0)(hF:aW n ρ F)(hl:(es.length:Int)=rl.v ρ):∀{a:List AX} {x:List X},GL T n ρ a x→iP F i rl a=true→gq i es.length x=true
 |_,_,.nil,_=>rfl
 |a::l,x::m,.cons g1 g2,h=>by
  have h:(a.within F i rl&&iP F i rl l)=true:=h
  rw [Bool.and_eq_true] at h
  show (x.within i es.length&&gq i es.length m)=true
  rw [G.within h0 hF hl g1 h.1,GL.within h0 hF hl g2 h.2];rfl
end
mutual
theorem G.frz (h0:ρ 0=0)(hF:aW n ρ F)(hk:hh.s<n)(hl:(es.length:Int)=rl.v ρ)(hd:∀e,e∈es→D T (hh.v ρ) k e):∀{a:AX} {x:X},G T n ρ a x→a.within F i rl=true→G T n ρ (a.frz i sz k hh) (x.frz i sz es)
 |.bs j o l,.bs _ o' l',.bs q1 q2 q3 q4,h=>by
  have hw:=G.within (T:=T) (i:=i) h0 hF hl (G.bs q1 q2 q3 q4) h
  unfold X.within at hw
  unfold AX.frz X.frz
  cases hj:(j==i) with
  |true=>
   rw [hj] at hw
   simp only [Bool.not_true,Bool.false_or,decide_eq_true_eq] at hw
   simp only [if_true]
   refine .sl hk q2 rfl ?_ fun e he=>hd e (List.mem_of_mem_drop (List.mem_of_mem_take he))
   rw [List.length_take,List.length_drop,Nat.min_eq_left (by omega)];exact q4
  |false=>simp only [Bool.false_eq_true,if_false];exact .bs q1 q2 q3 q4
 |_,_,.agg q,h=>.agg (GL.frz h0 hF hk hl hd q h)
 |_,_,.tup q,h=>.tup (GL.frz h0 hF hk hl hd q h)
 |_,_,.fn q,h=>.fn (GL.frz h0 hF hk hl hd q h)
 |.x y,_,.x q,_=>by show G T n ρ (.x y) (X.frz i sz es y);rw [EY i sz es y q];exact .x q
 |_,_,.i q1 q2,_=>.i q1 q2
 |_,_,.b q1 q2,_=>.b q1 q2
 |_,_,.s q1 q2,_=>.s q1 q2
 |_,_,.sl q1 q2 q3 q4 q5,_=>.sl q1 q2 q3 q4 q5
 |_,_,.ptr q1 q2,_=>.ptr q1 q2
 |_,_,.dp q,_=>.dp q
 |_,_,.yl,_=>.yl
 |_,_,.mp,_=>.mp
 |_,_,.ifc,_=>.ifc
 |_,_,.CX,_=>.CX
 |_,_,.el (xs:=xs) q1 q2,_=>by show G T n ρ _ (X.frz i sz es (.agg xs));rw [EY i sz es (.agg xs) (nX q2)];exact .el q1 q2
 |_,_,.de q1 q2,_=>.de q1 q2
theorem GL.frz (h0:ρ 0=0)(hF:aW n ρ F)(hk:hh.s<n)(hl:(es.length:Int)=rl.v ρ)(hd:∀e,e∈es→D T (hh.v ρ) k e):∀{a:List AX} {x:List X},GL T n ρ a x→iP F i rl a=true→GL T n ρ (Rl i sz k hh a) (OI i sz es x)
 |_,_,.nil,_=>.nil
 |a::l,x::m,.cons g1 g2,h=>by
  have h:(a.within F i rl&&iP F i rl l)=true:=h
  rw [Bool.and_eq_true] at h
  exact .cons (G.frz h0 hF hk hl hd g1 h.1) (GL.frz h0 hF hk hl hd g2 h.2)
end
def zeO (i sz k:Nat)(h:Lin)(tm:List (Nat×AX)):List (Nat×AX):=tm.map fun p=>(p.1,p.2.frz i sz k h)
theorem GT.frz (h0:ρ 0=0)(hF:aW n ρ F)(hk:hh.s<n)(hl:(es.length:Int)=rl.v ρ)(hd:∀e,e∈es→D T (hh.v ρ) k e):∀{a:List (Nat×AX)} {x:List (Nat×X)},GT T n ρ a x→iP F i rl (a.map (·.2))=true→GT T n ρ (zeO i sz k hh a) (zf1 i sz es x)
 |_,_,.nil,_=>.nil
 |(q,a)::l,_,.cons g1 g2,h=>by
  have h:(a.within F i rl&&iP F i rl (l.map (·.2)))=true:=h
  rw [Bool.and_eq_true] at h
  exact .cons (G.frz h0 hF hk hl hd g1 h.1) (GT.frz h0 hF hk hl hd g2 h.2)
def ABx.within (F:List Fact)(i:Nat)(rl:Lin):ABx→Bool
 |.var cs=>iP F i rl cs
 |.loop _ _ tm _ _ _=>iP F i rl (tm.map (·.2))
 |_=>true
def ABx.frz (i sz k:Nat)(h:Lin):ABx→ABx
 |.var cs=>.var (Rl i sz k h cs)
 |.loop st p tm ps a b=>.loop st p (zeO i sz k h tm) ps a b
 |.row s k h l=>.row s k h l
 |.map es=>.map es
 |.dead=>.dead
 |.el k h=>.el k h
theorem GB.within (h0:ρ 0=0)(hF:aW n ρ F)(hl:(es.length:Int)=rl.v ρ){a:ABx}{x:Bx}(g:GB T n ρ a x)(h:a.within F i rl=true):x.within i es.length=true:=by
 cases g with
 |var q=>exact q.within h0 hF hl h
 |loop q=>exact q.vals.within h0 hF hl h
 |row _ _ _ _=>rfl
 |map _=>rfl
 |dead=>rfl
 |el _ q=>exact gQ _ _ _ (nX q)
theorem GB.frz (h0:ρ 0=0)(hF:aW n ρ F)(hk:hh.s<n)(hl:(es.length:Int)=rl.v ρ)(hd:∀e,e∈es→D T (hh.v ρ) k e){a:ABx}{x:Bx}(g:GB T n ρ a x)(h:a.within F i rl=true):GB T n ρ (a.frz i sz k hh) (x.frz i sz es):=by
 cases g with
 |var q=>exact .var (q.frz h0 hF hk hl hd h)
 |loop q=>exact .loop (q.frz h0 hF hk hl hd h)
 |row q1 q2 q3 q4=>exact .row q1 q2 q3 q4
 |map q=>exact .map q
 |dead=>exact .dead
 |el q1 q2=>
  rename_i xs
  show GB T n ρ _ (Bx.var (OI i sz es xs))
  rw [o9 i sz es xs (nX q2)];exact .el q1 q2
theorem GBs.within (h0:ρ 0=0)(hF:aW n ρ F)(hl:(es.length:Int)=rl.v ρ):∀{a:List ABx} {x:List Bx},GBs T n ρ a x→a.all (ABx.within F i rl)=true→x.all (Bx.within i es.length)=true
 |_,_,.nil,_=>rfl
 |_,_,.cons g1 g2,h=>by
  rw [List.all_cons,Bool.and_eq_true] at h
  rw [List.all_cons,g1.within h0 hF hl h.1,g2.within h0 hF hl h.2];rfl
theorem GBs.frz (h0:ρ 0=0)(hF:aW n ρ F)(hk:hh.s<n)(hl:(es.length:Int)=rl.v ρ)(hd:∀e,e∈es→D T (hh.v ρ) k e):∀{a:List ABx} {x:List Bx},GBs T n ρ a x→a.all (ABx.within F i rl)=true→GBs T n ρ (a.map (ABx.frz i sz k hh)) (x.map (Bx.frz i sz es))
 |_,_,.nil,_=>.nil
 |_,_,.cons g1 g2,h=>by
  rw [List.all_cons,Bool.and_eq_true] at h
  exact .cons (g1.frz h0 hF hk hl hd h.1) (g2.frz h0 hF hk hl hd h.2)
end
def vH (i:Nat)(a:ASt):Option ASt:=match a.bx[i]? with
 |some (.row sz k h rl)=>if iP a.F i rl (a.tm.map (·.2))&&a.bx.all (ABx.within a.F i rl) then
   some {a with tm:=zeO i sz k h a.tm,bx:=(a.bx.map (ABx.frz i sz k h)).set i .dead} else none
 |_=>none
theorem vG {a a':ASt}{σ:St}{i:Nat}(hr:R T ρ a σ)(h:vH i a=some a'):∃σ',Em.freeze i σ=some σ'∧R T ρ a' σ'∧a'.nx=a.nx:=by
 unfold vH at h
 split at h
 ·rename_i sz k hh rl hb
  split at h
  ·rename_i hc
   cases h
   rw [Bool.and_eq_true] at hc
   obtain ⟨b,hb',hgb⟩:=hr.bx.get hb
   cases hgb with
   |row w1 w2 w3 w4=>
    rename_i es
    refine ⟨⟨zf1 i sz es σ.tm,(σ.bx.map (Bx.frz i sz es)).set i .dead⟩,?_,⟨hr.zero,hr.pos,hr.F,hr.tm.frz hr.zero hr.F w1 w3 w4 hc.1,(hr.bx.frz hr.zero hr.F w1 w3 w4 hc.2).set i .dead⟩,rfl⟩
    unfold Em.freeze
    rw [hb']
    dsimp only
    rw [if_pos]
    unfold Hf
    rw [hr.tm.vals.within hr.zero hr.F w3 hc.1,hr.bx.within hr.zero hr.F w3 hc.2];rfl
  ·cases h
 ·cases h
def nM:List Nat→ASt→Option ASt
 |[],a=>some a
 |i::r,a=>match a.bx[i]? with
  |some (.row _ _ _ _)=>(vH i a).bind (nM r)
  |some _=>nM r a
  |none=>none
theorem fF:∀{l:List Nat} {a a':ASt} {σ:St},R T ρ a σ→nM l a=some a'→∃σ',Em.freezes l σ=some σ'∧R T ρ a' σ'∧a'.nx=a.nx
 |[],a,a',σ,hr,h=>by simp only [nM,Option.some.injEq] at h;subst h;exact ⟨σ,rfl,hr,rfl⟩
 |i::r,a,a',σ,hr,h=>by
  unfold nM at h
  unfold Em.freezes
  split at h
  ·rename_i hb
   obtain ⟨b,hb',hgb⟩:=hr.bx.get hb
   cases hgb with
   |row _ _ _ _=>
    rw [hb']
    dsimp only
    cases hf:vH i a with
    |none=>rw [hf] at h;cases h
    |some a1=>
     rw [hf] at h
     obtain ⟨σ1,h1,h2,h3⟩:=vG hr hf
     obtain ⟨σ2,h4,h5,h6⟩:=fF (l:=r) h2 h
     exact ⟨σ2,by rw [h1];exact h4,h5,by omega⟩
  ·rename_i y hne hb
   obtain ⟨b,hb',hgb⟩:=hr.bx.get hb
   rw [hb']
   cases hgb with
   |row _ _ _ _=>exact (hne _ _ _ _ rfl).elim
   |var _=>exact fF (l:=r) hr h
   |loop _=>exact fF (l:=r) hr h
   |map _=>exact fF (l:=r) hr h
   |dead=>exact fF (l:=r) hr h
   |el _ _=>exact fF (l:=r) hr h
  ·cases h
end Go.Ab
namespace Go.Ab
open Go.Em
variable {T:Tab} {n m:Nat} {ρ ρ':Rho} {Γ:Nat→Gam}
mutual
def AX.IY (i:Nat):AX→Bool
 |.ptr j e _=>if j==i then XG e else true
 |.agg cs=>pF i cs
 |.tup cs=>pF i cs
 |.fn _ cs=>pF i cs
 |_=>true
def pF (i:Nat):List AX→Bool
 |[]=>true
 |x::r=>x.IY i&&pF i r
end
mutual
def AX.fix (i:Nat)(vs:List AX):AX→AX
 |.ptr j e o=>if j==i then .dp (vs.drop o) else .ptr j e o
 |.agg cs=>.agg (Rn i vs cs)
 |.tup cs=>.tup (Rn i vs cs)
 |.fn g cs=>.fn g (Rn i vs cs)
 |.i k l=>.i k l
 |.b t u=>.b t u
 |.s l=>.s l
 |.x x=>.x x
 |.sl t sz k h l=>.sl t sz k h l
 |.bs i o l=>.bs i o l
 |.dp cs=>.dp cs
 |.yl i=>.yl i
 |.mp i=>.mp i
 |.rE=>.rE
 |.el k h=>.el k h
 |.de k h=>.de k h
def Rn (i:Nat)(vs:List AX):List AX→List AX
 |[]=>[]
 |x::r=>x.fix i vs::Rn i vs r
end
mutual
theorem Fg (i:Nat)(vs:List X):∀(x:X),x.refs=[]→x.fix i vs=x
 |.ptr _ _ _,h=>by simp [X.refs] at h
 |.agg cs,h=>by show X.agg (OM i vs cs)=_;rw [pG i vs cs h]
 |.tup cs,h=>by show X.tup (OM i vs cs)=_;rw [pG i vs cs h]
 |.fn g cs,h=>by show X.fn g (OM i vs cs)=_;rw [pG i vs cs h]
 |.v _,_=>rfl
 |.sl _ _ _,_=>rfl
 |.bs _ _ _,_=>rfl
 |.dp _,_=>rfl
 |.yl _,_=>rfl
 |.mp _,_=>rfl
 |.ifc,_=>rfl
theorem pG (i:Nat)(vs:List X):∀(xs:List X),bM xs=[]→OM i vs xs=xs
 |[],_=>rfl
 |x::r,h=>by
  have h:x.refs++bM r=[]:=h
  obtain ⟨h1,h2⟩:=List.append_eq_nil_iff.1 h
  show x.fix i vs::OM i vs r=_
  rw [Fg i vs x h1,pG i vs r h2]
end
section
variable {i:Nat} {vs:List AX} {xv:List X}
mutual
theorem G.fix (h0:ρ 0=0)(hv:GL T n ρ vs xv):∀{a:AX} {x:X},G T n ρ a x→a.IY i=true→G T n ρ (a.fix i vs) (x.fix i xv)
 |.ptr j e o,.ptr _ e' _,.ptr q1 q2,h=>by
  unfold AX.IY at h
  unfold AX.fix X.fix
  cases hj:(j==i) with
  |true=>
   rw [hj] at h
   simp only [if_true] at h ⊢
   have:=o7 h h0
   have:e'=0:=by omega
   subst this
   simp only [beq_self_eq_true,Bool.and_self,if_true]
   exact .dp (hv.drop o)
  |false=>simp only [Bool.false_and,Bool.false_eq_true,if_false];exact .ptr q1 q2
 |_,_,.agg q,h=>.agg (GL.fix h0 hv q h)
 |_,_,.tup q,h=>.tup (GL.fix h0 hv q h)
 |_,_,.fn q,h=>.fn (GL.fix h0 hv q h)
 |.x y,_,.x q,_=>by show G T n ρ (.x y) (X.fix i xv y);rw [Fg i xv y q];exact .x q
 |_,_,.i q1 q2,_=>.i q1 q2
 |_,_,.b q1 q2,_=>.b q1 q2
 |_,_,.s q1 q2,_=>.s q1 q2
 |_,_,.sl q1 q2 q3 q4 q5,_=>.sl q1 q2 q3 q4 q5
 |_,_,.bs q1 q2 q3 q4,_=>.bs q1 q2 q3 q4
 |_,_,.dp q,_=>.dp q
 |_,_,.yl,_=>.yl
 |_,_,.mp,_=>.mp
 |_,_,.ifc,_=>.ifc
 |_,_,.CX,_=>.CX
 |_,_,.el (xs:=xs) q1 q2,_=>by show G T n ρ _ (X.fix i xv (.agg xs));rw [Fg i xv (.agg xs) (nX q2)];exact .el q1 q2
 |_,_,.de q1 q2,_=>.de q1 q2
theorem GL.fix (h0:ρ 0=0)(hv:GL T n ρ vs xv):∀{a:List AX} {x:List X},GL T n ρ a x→pF i a=true→GL T n ρ (Rn i vs a) (OM i xv x)
 |_,_,.nil,_=>.nil
 |a::l,x::m,.cons g1 g2,h=>by
  have h:(a.IY i&&pF i l)=true:=h
  rw [Bool.and_eq_true] at h
  exact .cons (G.fix h0 hv g1 h.1) (GL.fix h0 hv g2 h.2)
end
def zeQ (i:Nat)(vs:List AX)(tm:List (Nat×AX)):List (Nat×AX):=tm.map fun p=>(p.1,p.2.fix i vs)
theorem GT.fix (h0:ρ 0=0)(hv:GL T n ρ vs xv):∀{a:List (Nat×AX)} {x:List (Nat×X)},GT T n ρ a x→pF i (a.map (·.2))=true→GT T n ρ (zeQ i vs a) (zhG i xv x)
 |_,_,.nil,_=>.nil
 |(q,a)::l,_,.cons g1 g2,h=>by
  have h:(a.IY i&&pF i (l.map (·.2)))=true:=h
  rw [Bool.and_eq_true] at h
  exact .cons (G.fix h0 hv g1 h.1) (GT.fix h0 hv g2 h.2)
def ABx.IY (i:Nat):ABx→Bool
 |.var cs=>pF i cs
 |.loop _ _ tm _ _ _=>pF i (tm.map (·.2))
 |_=>true
def ABx.fix (i:Nat)(vs:List AX):ABx→ABx
 |.var cs=>.var (Rn i vs cs)
 |.loop st p tm ps a b=>.loop st p (zeQ i vs tm) ps a b
 |.row s k h l=>.row s k h l
 |.map es=>.map es
 |.dead=>.dead
 |.el k h=>.el k h
theorem GBs.fix (h0:ρ 0=0)(hv:GL T n ρ vs xv):∀{a:List ABx} {x:List Bx},GBs T n ρ a x→a.all (ABx.IY i)=true→GBs T n ρ (a.map (ABx.fix i vs)) (x.map (Bx.fix i xv))
 |_,_,.nil,_=>.nil
 |_,_,.cons g1 g2,h=>by
  rw [List.all_cons,Bool.and_eq_true] at h
  refine .cons ?_ (GBs.fix h0 hv g2 h.2)
  cases g1 with
  |var q=>exact .var (GL.fix h0 hv q h.1)
  |loop q=>exact .loop (GT.fix h0 hv q h.1)
  |row q1 q2 q3 q4=>exact .row q1 q2 q3 q4
  |map q=>exact .map q
  |dead=>exact .dead
  |el q1 q2=>
   rename_i xs
   show GB T n ρ _ (Bx.var (OM i xv xs))
   rw [pG i xv xs (nX q2)];exact .el q1 q2
end
def E5 (i:Nat)(a:ASt):Option ASt:=match a.bx[i]? with
 |some (.var vs)=>if (oq vs).isEmpty then
   (if pF i (a.tm.map (·.2))&&a.bx.all (ABx.IY i) then some {a with tm:=zeQ i vs a.tm,bx:=(a.bx.map (ABx.fix i vs)).set i .dead} else none)
   else some a
 |_=>none
theorem LQ {a a':ASt}{σ:St}{i:Nat}(hr:R T ρ a σ)(h:E5 i a=some a'):∃σ',vF i σ=some σ'∧R T ρ a' σ'∧a'.nx=a.nx:=by
 unfold E5 at h
 split at h
 ·rename_i vs hb
  obtain ⟨b,hb',hgb⟩:=hr.bx.get hb
  cases hgb with
  |var hv=>
   rename_i xv
   split at h
   ·rename_i he
    split at h
    ·rename_i hc
     cases h
     rw [Bool.and_eq_true] at hc
     refine ⟨⟨zhG i xv σ.tm,(σ.bx.map (Bx.fix i xv)).set i .dead⟩,?_,⟨hr.zero,hr.pos,hr.F,GT.fix hr.zero hv hr.tm hc.1,(GBs.fix hr.zero hv hr.bx hc.2).set i .dead⟩,rfl⟩
     unfold vF
     rw [hb']
     (try dsimp only)
     rw [hv.refs,if_pos he]
    ·cases h
   ·rename_i he
    cases h
    refine ⟨σ,?_,hr,rfl⟩
    unfold vF
    rw [hb']
    (try dsimp only)
    rw [hv.refs,if_neg he]
 ·cases h
def isRef:AX→Bool
 |.ptr _ _ _=>true
 |_=>false
def zj5:AX→Bool
 |.bs _ _ _=>true
 |_=>false
theorem Kt {a:AX}{x:X}(hg:G T n ρ a x)(h:isRef a=false):∀i e o,x≠.ptr i e o:=fun i e o hx=>by
 subst hx
 cases hg with
 |x q=>simp [X.refs] at q
 |ptr _ _=>cases h
theorem zbf {a:AX}{x:X}(hg:G T n ρ a x)(h:zj5 a=false):∀i e o,x≠.bs i e o:=fun i e o hx=>by
 subst hx
 cases hg with
 |x q=>simp [X.refs] at q
 |bs _ _ _ _=>cases h
def V8 (a:ASt):Gh→Option ASt
 |.thaw s none=>match lkA a.tm s with
  |none=>some a
  |some y=>match tight a.F y with
   |some (some sz)=>some {a with tm:=(s,.bs a.bx.length (.k 0) (.k 0))::a.tm,bx:=a.bx++[FB sz]}
   |some none=>some a
   |none=>none
 |.thaw s (some o)=>match lkA a.tm s with
  |none=>some a
  |some (.ptr i e o')=>if XG e then match a.bx[i]? with
   |some (.var cs)=>match cs[o'+o]? with
    |some y=>match tight a.F y with
     |some (some sz)=>some {a with bx:=(a.bx.set i (.var (cs.set (o'+o) (.bs a.bx.length (.k 0) (.k 0)))))++[FB sz]}
     |some none=>some a
     |none=>none
    |none=>some a
   |some (.el _ _)=>none
   |some _=>some a
   |none=>none
   else none
  |some y=>if isRef y then none else some a
 |.frz s none=>match lkA a.tm s with
  |some (.bs i _ _)=>vH i a
  |some y=>if zj5 y then none else some a
  |none=>none
 |.frz s (some o)=>match lkA a.tm s with
  |some (.ptr i e o')=>if XG e then match a.bx[i]? with
   |some (.var cs)=>match cs[o'+o]? with
    |some (.bs j _ _)=>vH j a
    |some y=>if zj5 y then none else some a
    |none=>none
   |_=>none
   else none
  |_=>none
 |.frzA s=>match lkA a.tm s with
  |some (.ptr i _ _)=>match a.bx[i]? with
   |some (.var cs)=>nM (Ej cs) a
   |some _=>some a
   |none=>none
  |some y=>if isRef y then none else nM y.rows a
  |none=>some a
 |.frzV s=>match lkA a.tm s with
  |some (.ptr i _ _)=>E5 i a
  |some y=>if isRef y then none else some a
  |none=>some a
theorem GL.set:∀{l:List AX} {m:List X} {y:AX} {x:X} (i:Nat),GL T n ρ l m→G T n ρ y x→GL T n ρ (l.set i y) (m.set i x)
 |_,_,_,_,_,.nil,_=>.nil
 |_,_,_,_,0,.cons _ h,g=>.cons g h
 |_,_,_,_,i+1,.cons h1 h,g=>.cons h1 (h.set i g)
theorem GL.get_none {l:List AX}{m:List X}{i:Nat}(h:GL T n ρ l m)(e:l[i]?=none):m[i]?=none:=by
 rw [List.getElem?_eq_none_iff] at e ⊢
 rw [←h.len];exact e
theorem V7 {a a':ASt}{σ:St}{g:Gh}(hr:R T ρ a σ)(h:V8 a g=some a'):∃σ',ghost σ g=some σ'∧R T ρ a' σ'∧a'.nx=a.nx:=by
 have hl:=hr.bx.len
 have hbs:G T a.nx ρ (.bs a.bx.length (.k 0) (.k 0)) (.bs σ.bx.length 0 0):=by
  rw [hl];exact .bs hr.pos hr.pos (by rw [Lin.k_v hr.zero];rfl) (by rw [Lin.k_v hr.zero];rfl)
 unfold V8 at h
 split at h
 ·rename_i s
  unfold ghost
  (try dsimp only)
  split at h
  ·rename_i e;cases h;rw [qc hr.tm e];exact ⟨σ,rfl,hr,rfl⟩
  ·rename_i y e
   obtain ⟨x,hx,hg⟩:=iM hr.tm e
   obtain ⟨t1,t2⟩:=Nu hr.zero hr.F hg
   rw [hx]
   split at h
   ·rename_i sz ht
    cases h
    have:=t1 sz ht
    subst this
    exact ⟨_,rfl,⟨hr.zero,hr.pos,hr.F,.cons hbs hr.tm,hr.bx.snoc (Aa hr.zero hr.pos sz)⟩,rfl⟩
   ·rename_i ht
    cases h
    have hne:=t2 ht
    refine ⟨σ,?_,hr,rfl⟩
    split
    ·rename_i sz e2;cases e2;exact absurd rfl (hne sz)
    ·rfl
   ·cases h
 ·rename_i s o
  unfold ghost
  (try dsimp only)
  split at h
  ·rename_i e;cases h;rw [qc hr.tm e];exact ⟨σ,rfl,hr,rfl⟩
  ·rename_i i e0 o' e
   obtain ⟨x,hx,hg⟩:=iM hr.tm e
   cases hg with
   |ptr q1 q2=>
    rename_i en
    split at h
    ·rename_i hz
     have h0:=o7 hz hr.zero
     have:en=0:=by omega
     subst this
     simp only [hx]
     split at h
     ·rename_i cs hb
      obtain ⟨b,hb',hgb⟩:=hr.bx.get hb
      cases hgb with
      |var hv=>
       rename_i xv
       simp only [hb']
       split at h
       ·rename_i y hy
        obtain ⟨z,hz',hgz⟩:=hv.get hy
        obtain ⟨t1,t2⟩:=Nu hr.zero hr.F hgz
        rw [hz']
        split at h
        ·rename_i sz ht
         cases h
         have:=t1 sz ht
         subst this
         exact ⟨_,rfl,⟨hr.zero,hr.pos,hr.F,hr.tm,(hr.bx.set i (.var (hv.set _ hbs))).snoc (Aa hr.zero hr.pos sz)⟩,rfl⟩
        ·rename_i ht
         cases h
         have hne:=t2 ht
         refine ⟨σ,?_,hr,rfl⟩
         split
         ·rename_i sz e2;cases e2;exact absurd rfl (hne sz)
         ·rfl
        ·cases h
       ·rename_i hy
        cases h
        rw [hv.get_none hy]
        exact ⟨σ,rfl,hr,rfl⟩
     ·cases h
     ·rename_i b hne hne2 hb
      cases h
      obtain ⟨b',hb',hgb⟩:=hr.bx.get hb
      rw [hb']
      cases hgb with
      |var _=>exact (hne _ rfl).elim
      |el _ _=>exact (hne2 _ _ rfl).elim
      |row _ _ _ _=>exact ⟨σ,rfl,hr,rfl⟩
      |loop _=>exact ⟨σ,rfl,hr,rfl⟩
      |map _=>exact ⟨σ,rfl,hr,rfl⟩
      |dead=>exact ⟨σ,rfl,hr,rfl⟩
     ·cases h
    ·cases h
  ·rename_i y hne e
   obtain ⟨x,hx,hg⟩:=iM hr.tm e
   split at h
   ·cases h
   ·rename_i hr1
    cases h
    have hnp:=Kt hg (by simpa using hr1)
    rw [hx]
    refine ⟨σ,?_,hr,rfl⟩
    split
    ·rename_i i o' e2;cases e2;exact absurd rfl (hnp _ _ _)
    ·rfl
 ·rename_i s
  unfold ghost
  (try dsimp only)
  split at h
  ·rename_i i o l e
   obtain ⟨x,hx,hg⟩:=iM hr.tm e
   cases hg with
   |bs _ _ _ _=>
    rw [hx]
    exact vG hr h
  ·rename_i y hne e
   obtain ⟨x,hx,hg⟩:=iM hr.tm e
   split at h
   ·cases h
   ·rename_i hr1
    cases h
    have hnp:=zbf hg (by simpa using hr1)
    rw [hx]
    refine ⟨σ,?_,hr,rfl⟩
    split
    ·rename_i i o' l' e2;cases e2;exact absurd rfl (hnp _ _ _)
    ·rfl
    ·rename_i h1 h2;exact (h2 _ rfl).elim
  ·cases h
 ·rename_i s o
  unfold ghost
  (try dsimp only)
  split at h
  ·rename_i i e0 o' e
   obtain ⟨x,hx,hg⟩:=iM hr.tm e
   cases hg with
   |ptr q1 q2=>
    rename_i en
    split at h
    ·rename_i hz
     have h0:=o7 hz hr.zero
     have:en=0:=by omega
     subst this
     simp only [hx]
     split at h
     ·rename_i cs hb
      obtain ⟨b,hb',hgb⟩:=hr.bx.get hb
      cases hgb with
      |var hv=>
       rename_i xv
       simp only [hb']
       split at h
       ·rename_i j o2 l2 hy
        obtain ⟨z,hz',hgz⟩:=hv.get hy
        cases hgz with
        |bs _ _ _ _=>
         rw [hz']
         exact vG hr h
       ·rename_i y hne hy
        obtain ⟨z,hz',hgz⟩:=hv.get hy
        split at h
        ·cases h
        ·rename_i hr1
         cases h
         have hnp:=zbf hgz (by simpa using hr1)
         rw [hz']
         refine ⟨σ,?_,hr,rfl⟩
         split
         ·rename_i e2;cases e2;exact absurd rfl (hnp _ _ _)
         ·rfl
         ·rename_i h1 h2;exact (h2 _ rfl).elim
       ·cases h
     ·cases h
    ·cases h
  ·cases h
 ·rename_i s
  unfold ghost
  (try dsimp only)
  split at h
  ·rename_i i e0 o' e
   obtain ⟨x,hx,hg⟩:=iM hr.tm e
   cases hg with
   |ptr q1 q2=>
    rw [hx]
    (try dsimp only)
    split at h
    ·rename_i cs hb
     obtain ⟨b,hb',hgb⟩:=hr.bx.get hb
     cases hgb with
     |var hv=>
      rw [hb']
      (try dsimp only)
      rw [hv.rows]
      exact fF hr h
    ·rename_i b hne hb
     cases h
     obtain ⟨b',hb',hgb⟩:=hr.bx.get hb
     rw [hb']
     cases hgb with
     |var _=>exact (hne _ rfl).elim
     |row _ _ _ _=>exact ⟨σ,rfl,hr,rfl⟩
     |loop _=>exact ⟨σ,rfl,hr,rfl⟩
     |map _=>exact ⟨σ,rfl,hr,rfl⟩
     |dead=>exact ⟨σ,rfl,hr,rfl⟩
     |el _ q=>
      dsimp only
      rw [l7 _ (nX q)]
      exact ⟨σ,rfl,hr,rfl⟩
    ·cases h
  ·rename_i y hne e
   obtain ⟨x,hx,hg⟩:=iM hr.tm e
   split at h
   ·cases h
   ·rename_i hr1
    have hnp:=Kt hg (by simpa using hr1)
    obtain ⟨σ',h1,h2,h3⟩:=fF hr h
    refine ⟨σ',?_,h2,h3⟩
    rw [hx]
    split
    ·rename_i i e1 o1 e2;cases e2;exact absurd rfl (hnp _ _ _)
    ·rename_i x' _ e2;cases e2;rw [hg.rows];exact h1
    ·rename_i e2;cases e2
  ·rename_i e;cases h;rw [qc hr.tm e];exact ⟨σ,rfl,hr,rfl⟩
 ·rename_i s
  unfold ghost
  (try dsimp only)
  split at h
  ·rename_i i e0 o' e
   obtain ⟨x,hx,hg⟩:=iM hr.tm e
   cases hg with
   |ptr q1 q2=>rw [hx];exact LQ hr h
  ·rename_i y hne e
   obtain ⟨x,hx,hg⟩:=iM hr.tm e
   split at h
   ·cases h
   ·rename_i hr1
    cases h
    have hnp:=Kt hg (by simpa using hr1)
    rw [hx]
    refine ⟨σ,?_,hr,rfl⟩
    split
    ·rename_i i e1 o1 e2;cases e2;exact absurd rfl (hnp _ _ _)
    ·rfl
  ·rename_i e;cases h;rw [qc hr.tm e];exact ⟨σ,rfl,hr,rfl⟩
def zO:List Gh→ASt→Option ASt
 |[],a=>some a
 |g::r,a=>match V8 a g with
  |none=>none
  |some a'=>zO r a'
theorem Di:∀{l:List Gh} {a a':ASt} {σ:St},R T ρ a σ→zO l a=some a'→∃σ',ghosts l σ=some σ'∧R T ρ a' σ'∧a'.nx=a.nx
 |[],a,a',σ,hr,h=>by simp only [zO,Option.some.injEq] at h;subst h;exact ⟨σ,rfl,hr,rfl⟩
 |g::r,a,a',σ,hr,h=>by
  unfold zO at h
  split at h
  ·cases h
  ·rename_i a1 h1
   obtain ⟨σ1,k1,k2,k3⟩:=V7 hr h1
   obtain ⟨σ2,k4,k5,k6⟩:=Di k2 h
   exact ⟨σ2,by unfold ghosts;rw [k1];exact k4,k5,by omega⟩
end Go.Ab
namespace Go.Ab
open Go.Em
variable {T:Tab} {n m:Nat} {ρ ρ':Rho} {Γ:Nat→Gam}
abbrev F7:=Ex×ASt
def FW (T:Tab)(Γ:Nat→Gam)(nIn:Nat)(ρ:Rho)(a:ASt)(σ:St)(c:C)(outs:List F7):Prop:=
 ∃q,q∈outs∧∃ρ' σ',More a.nx ρ q.2.nx ρ'∧R T ρ' q.2 σ'∧∃B,∀N,B≤N→run (Γ N) nIn N c σ=some (q.1,σ')
def zjG (x:Cx)(base:Nat)(gh:List Gh)(draw:List (Nat×Nat))(l:List Ins)(live:List Nat)(a:ASt):Option (List F7):=
 match zO gh a with
 |none=>none
 |some a1=>match Gx x l a1 with
  |none=>none
  |some outs=>nP (outs.map fun q=>if pairsOk l q.2 draw then some (Ex.norm,prune base {q.1 with tm:=keepA live q.1.tm}) else none)
theorem zcB {x:Cx}{base nIn:Nat}{gh:List Gh}{draw:List (Nat×Nat)}{l:List Ins}{live:List Nat}{a:ASt}{σ:St}{outs:List F7}(hx:Jv Γ x a.nx ρ)(hr:R x.T ρ a σ)(h:zjG x base gh draw l live a=some outs):FW x.T Γ nIn ρ a σ (.reg gh draw l live) outs:=by
 unfold zjG at h
 split at h
 ·cases h
 ·rename_i a1 hg
  obtain ⟨σ1,k1,k2,k3⟩:=Di hr hg
  split at h
  ·cases h
  ·rename_i os ho
   obtain ⟨q,hq,ρ',σ',p1,p2,B,p3⟩:=Gw (k3▸hx) k2 ho
   obtain ⟨w,hw,hm⟩:=fJ h hq
   split at hw
   ·rename_i hp
    cases hw
    refine ⟨_,hm,ρ',⟨keep live σ'.tm,σ'.bx⟩,⟨by have h9:=p1.le;show a.nx≤q.1.nx;omega,fun s hs=>p1.same s (by omega)⟩,YR ⟨p2.zero,p2.pos,p2.F,Oo p2.tm live,p2.bx⟩,B,fun N hN=>?_⟩
    unfold run
    rw [k1]
    dsimp only
    rw [p3 N hN]
    dsimp only
    rw [if_pos hp]
   ·cases hw
def leT (c:In):List (Nat×AX)→List (Nat×AX)→Bool
 |[],[]=>true
 |(k,a)::l,(j,p)::r=>Nat.beq k j&&leX c a p&&leT c l r
 |_,_=>false
theorem zbl {c:In}(h0:ρ 0=0)(hF:aW n ρ c.F):∀{a p:List (Nat×AX)} {x:List (Nat×X)},leT c a p=true→GT T n ρ a x→GT T c.m (back c.θ ρ) p x
 |[],[],_,_,.nil=>.nil
 |(k,a)::l,(j,b)::r,_,h,.cons h1 h2=>by
  unfold leT at h
  simp only [Bool.and_eq_true] at h
  obtain ⟨⟨e1,e2⟩,e3⟩:=h
  have e1:=Nat.eq_of_beq_eq_true e1
  subst e1
  exact .cons (Oi h0 hF e2 h1) (zbl h0 hF e3 h2)
def Zf (c:In):List ABx→List ABx→Bool
 |[],[]=>true
 |a::l,b::r=>leB c a b&&Zf c l r
 |_,_=>false
theorem Oj {c:In}(h0:ρ 0=0)(hF:aW n ρ c.F):∀{a p:List ABx} {x:List Bx},Zf c a p=true→GBs T n ρ a x→GBs T c.m (back c.θ ρ) p x
 |[],[],_,_,.nil=>.nil
 |a::l,b::r,_,h,.cons h1 h2=>by
  unfold Zf at h
  rw [Bool.and_eq_true] at h
  exact .cons (zbn h0 hF h.1 h1) (Oj h0 hF h.2 h2)
def dL (k:Nat)(acc:List (Nat×Lin)):Sub:=fun s=>if Nat.blt s k then ⟨s,0⟩ else oh acc s
def zfV (k:Nat)(acc:List (Nat×Lin))(a p:ASt):Bool:=
 let c:In:=⟨a.F,dL k acc,p.nx⟩
 Nat.ble k a.nx&&Nat.ble k p.nx&&Nat.blt 0 k&&leT c a.tm p.tm&&Zf c a.bx p.bx&&
  p.F.all (fun f=>Nat.blt f.x p.nx&&Nat.blt f.y p.nx&&leL a.F (dL k acc f.x) ((dL k acc f.y).up f.c))
theorem Kz {k:Nat}{acc:List (Nat×Lin)}{a p:ASt}{σ:St}(hr:R T ρ a σ)(h:zfV k acc a p=true):R T (back (dL k acc) ρ) p σ∧More k ρ p.nx (back (dL k acc) ρ):=by
 unfold zfV at h
 simp only [Bool.and_eq_true] at h
 obtain ⟨⟨⟨⟨⟨h1,h2⟩,h3⟩,h4⟩,h5⟩,h6⟩:=h
 have hk:=eF h3
 have hsame:∀s,s<k→back (dL k acc) ρ s=ρ s:=fun s hs=>by
  unfold back dL
  rw [if_pos (FU.2 hs)]
  unfold Lin.v;dsimp only;omega
 have hle:=Nat.le_of_ble_eq_true h2
 refine ⟨⟨by rw [hsame 0 hk];exact hr.zero,by omega,fun f hf=>?_,zbl (c:=⟨a.F,dL k acc,p.nx⟩) hr.zero hr.F h4 hr.tm,Oj (c:=⟨a.F,dL k acc,p.nx⟩) hr.zero hr.F h5 hr.bx⟩,⟨hle,hsame⟩⟩
 have:=List.all_eq_true.1 h6 f hf
 simp only [Bool.and_eq_true] at this
 obtain ⟨⟨e1,e2⟩,e3⟩:=this
 have e4:=aQ hr.F e3
 rw [Lin.kZ] at e4
 exact ⟨eF e1,eF e2,e4⟩
def zh3:List (Nat×AX)→List (Nat×AX)→List (Nat×Lin)→List (Nat×Lin)
 |(_,a)::l,(_,b)::r,acc=>zh3 l r (zaI a b acc)
 |_,_,acc=>acc
def wM (a p:ASt):List (Nat×Lin):=Jo a.bx p.bx (zh3 a.tm p.tm [])
abbrev Mu:=Lin×Lin
abbrev Orc:=C→ASt→Option (ASt×Mu)
def zbi (k:Nat):Nat:=Nat.shiftLeft 1 k-1
def lessM (F:List Fact)(θ:Sub)(mu:Mu):Bool:=leL F (mu.2.up 1) mu.1&&
 ((leL F (mu.1.sub θ) mu.1&&leL F (mu.2.up 1) (mu.2.sub θ))||(leL F ((mu.1.sub θ).up 1) mu.1&&leL F mu.2 (mu.2.sub θ)))
def zc3 (nIn:Nat)(f:ASt→Option (List F7))(a I:ASt)(mu:Mu):Option (List F7):=
 if zfV a.nx (wM a I) a I&&Nat.blt mu.1.s I.nx&&Nat.blt mu.2.s I.nx then match f I with
  |none=>none
  |some outs=>
   if outs.all (fun q=>match q.1 with
    |.norm=>match O7 nIn q.2 with
     |some a'=>zfV a.nx (wM a' I) a' I&&lessM a'.F (dL a.nx (wM a' I)) mu
     |none=>false
    |_=>true) then some (outs.filter fun q=>match q.1 with|.norm=>false|_=>true) else none
 else none
theorem Oh {F:List Fact}{θ:Sub}{mu:Mu}(hF:aW n ρ F)(h:lessM F θ mu=true):1≤mu.1.v ρ-mu.2.v ρ∧mu.1.v (back θ ρ)-mu.2.v (back θ ρ)+1≤mu.1.v ρ-mu.2.v ρ:=by
 unfold lessM at h
 simp only [Bool.and_eq_true,Bool.or_eq_true] at h
 obtain ⟨h1,h2⟩:=h
 have e1:=aQ hF h1
 rw [Lin.kZ] at e1
 rw [←nD,←nD]
 rcases h2 with ⟨h2,h3⟩|⟨h2,h3⟩
 ·have e2:=aQ hF h2
  have e3:=aQ hF h3
  rw [Lin.kZ] at e3
  omega
 ·have e2:=aQ hF h2
  have e3:=aQ hF h3
  rw [Lin.kZ] at e2
  omega
theorem Za {x:Cx}{nIn:Nat}{b:C}{f:ASt→Option (List F7)}{a I:ASt}{mu:Mu}{outs:List F7}{τ σ:St}
  (hf:∀{ρ':Rho} {σ':St} {os:List F7},Jv Γ x I.nx ρ'→R x.T ρ' I σ'→f I=some os→FW x.T Γ nIn ρ' I σ' b os)
  (hx:Jv Γ x a.nx ρ) (hc:canon nIn τ=some σ) (hr:R x.T ρ a σ) (h:zc3 nIn f a I mu=some outs):FW x.T Γ nIn ρ a τ (.loop b) outs:=by
 unfold zc3 at h
 split at h
 ·rename_i hc1
  simp only [Bool.and_eq_true] at hc1
  obtain ⟨⟨h1,h2⟩,h3⟩:=hc1
  split at h
  ·cases h
  ·rename_i os ho
   split at h
   ·rename_i hall
    cases h
    have key:∀(d:Nat) (ρI:Rho) (σ τ:St),More a.nx ρ I.nx ρI→R x.T ρI I σ→canon nIn τ=some σ→(mu.1.v ρI-mu.2.v ρI).toNat≤d→
      ∃q,q∈os.filter (fun q=>match q.1 with|.norm=>false|_=>true)∧∃ρ' σ',More a.nx ρ q.2.nx ρ'∧R x.T ρ' q.2 σ'∧∃B,∀N,B≤N→∀F,d+1≤F→iter nIn (run (Γ N) nIn N b) F τ=some (q.1,σ'):=by
     intro d
     induction d with
     |zero=>
      intro ρI σ τ hm hI hcan hd
      obtain ⟨q,hq,ρ',σ',k1,k2,B,k3⟩:=hf (hx.more hm) hI ho
      have hq2:=List.all_eq_true.1 hall q hq
      obtain ⟨ex,a'⟩:=q
      cases ex with
      |norm=>
       exfalso
       dsimp only at hq2 k1 k2
       split at hq2
       ·rename_i a'' zdh
        rw [Bool.and_eq_true] at hq2
        obtain ⟨SN,c1,c2,c3⟩:=Au k2 zdh
        obtain ⟨e1,e2⟩:=Oh c2.F hq2.2
        have e3:=k1.lin (eF h2)
        have e4:=k1.lin (eF h3)
        omega
       ·cases hq2
      |exit j=>exact ⟨_,List.mem_filter.2 ⟨hq,rfl⟩,ρ',σ',hm.trans k1,k2,B,fun N hN F hF=>by
        obtain ⟨F',rfl⟩:∃F',F=F'+1:=⟨F-1,by omega⟩
        exact bC hcan (k3 N hN) (by simp)⟩
      |ret=>exact ⟨_,List.mem_filter.2 ⟨hq,rfl⟩,ρ',σ',hm.trans k1,k2,B,fun N hN F hF=>by
        obtain ⟨F',rfl⟩:∃F',F=F'+1:=⟨F-1,by omega⟩
        exact bC hcan (k3 N hN) (by simp)⟩
     |succ d ih=>
      intro ρI σ τ hm hI hcan hd
      obtain ⟨q,hq,ρ',σ',k1,k2,B,k3⟩:=hf (hx.more hm) hI ho
      have hq2:=List.all_eq_true.1 hall q hq
      obtain ⟨ex,a'⟩:=q
      cases ex with
      |norm=>
       dsimp only at hq2 k1 k2 k3
       split at hq2
       ·rename_i a'' zdh
        rw [Bool.and_eq_true] at hq2
        obtain ⟨SN,c1,c2,c3⟩:=Au k2 zdh
        obtain ⟨e1,e2⟩:=Oh c2.F hq2.2
        obtain ⟨r1,r2⟩:=Kz c2 hq2.1
        have e3:=k1.lin (eF h2)
        have e4:=k1.lin (eF h3)
        have hm2:More a.nx ρ I.nx (back (dL a.nx (wM a'' I)) ρ'):=⟨hm.le,fun s hs=>by rw [r2.same s hs,k1.same s (hm.lt hs),hm.same s hs]⟩
        obtain ⟨q',p1,ρ2,σ2,p2,p3,B2,p4⟩:=ih _ SN σ' hm2 r1 c1 (by omega)
        refine ⟨q',p1,ρ2,σ2,p2,p3,max B B2,fun N hN F hF=>?_⟩
        obtain ⟨F',rfl⟩:∃F',F=F'+1:=⟨F-1,by omega⟩
        exact dG hcan (k3 N (by omega)) (p4 N (by omega) F' (by omega))
       ·cases hq2
      |exit j=>exact ⟨_,List.mem_filter.2 ⟨hq,rfl⟩,ρ',σ',hm.trans k1,k2,B,fun N hN F hF=>by
        obtain ⟨F',rfl⟩:∃F',F=F'+1:=⟨F-1,by omega⟩
        exact bC hcan (k3 N hN) (by simp)⟩
      |ret=>exact ⟨_,List.mem_filter.2 ⟨hq,rfl⟩,ρ',σ',hm.trans k1,k2,B,fun N hN F hF=>by
        obtain ⟨F',rfl⟩:∃F',F=F'+1:=⟨F-1,by omega⟩
        exact bC hcan (k3 N hN) (by simp)⟩
    obtain ⟨r1,r2⟩:=Kz hr h1
    obtain ⟨q,p1,ρ2,σ2,p2,p3,B,p4⟩:=key _ _ σ τ r2 r1 hc (Nat.le_refl _)
    exact ⟨q,p1,ρ2,σ2,p2,p3,max B ((mu.1.v (back (dL a.nx (wM a I)) ρ)-mu.2.v (back (dL a.nx (wM a I)) ρ)).toNat+1),fun N hN=>by simp only [run];exact p4 N (by omega) N (by omega)⟩
   ·cases h
 ·cases h
def yB (k:Nat)(q p:F7):Bool:=decide (q.1=p.1)&&zfV k (wM q.2 p.2) q.2 p.2
def thin (k:Nat):List F7→List F7
 |[]=>[]
 |q::r=>let t:=thin k r
  if t.any (yB k q) then t else q::t.filter (fun p=>!yB k p q)
theorem BF {k:Nat}{q p:F7}{σ:St}(h:yB k q p=true)(hr:R T ρ q.2 σ):p.1=q.1∧∃ρ',More k ρ p.2.nx ρ'∧R T ρ' p.2 σ:=by
 unfold yB at h
 rw [Bool.and_eq_true] at h
 have h1:=Kz hr h.2
 exact ⟨(of_decide_eq_true h.1).symm,_,h1.2,h1.1⟩
theorem TG {k:Nat}:∀{l:List F7} {q:F7} {ρ:Rho} {σ:St},q∈l→k≤q.2.nx→R T ρ q.2 σ→∃p,p∈thin k l∧p.1=q.1∧∃ρ',More k ρ p.2.nx ρ'∧R T ρ' p.2 σ
 |[],_,_,_,h,_,_=>by cases h
 |a::r,q,ρ,σ,h,hk,hr=>by
  have self:∀{q:F7},k≤q.2.nx→R T ρ q.2 σ→∃ρ',More k ρ q.2.nx ρ'∧R T ρ' q.2 σ:=fun hk hr=>⟨ρ,⟨hk,fun _ _=>rfl⟩,hr⟩
  rcases List.mem_cons.1 h with rfl|h
  ·unfold thin
   dsimp only
   split
   ·rename_i hs
    obtain ⟨p,hp,hw⟩:=List.any_eq_true.1 hs
    obtain ⟨e,w⟩:=BF hw hr
    exact ⟨p,hp,e,w⟩
   ·exact ⟨q,List.mem_cons_self,rfl,self hk hr⟩
  ·obtain ⟨p,hp,e,ρ1,m1,r1⟩:=TG h hk hr
   unfold thin
   dsimp only
   split
   ·exact ⟨p,hp,e,ρ1,m1,r1⟩
   ·cases hw:yB k p a with
    |true=>
     obtain ⟨e2,ρ2,m2,r2⟩:=BF hw r1
     exact ⟨a,List.mem_cons_self,e2.trans e,ρ2,⟨m2.le,fun s hs=>(m2.same s hs).trans (m1.same s hs)⟩,r2⟩
    |false=>exact ⟨p,List.mem_cons_of_mem _ (List.mem_filter.2 ⟨hp,by simp [hw]⟩),e,ρ1,m1,r1⟩
theorem FW.thin {Γ:Nat→Gam}{nIn:Nat}{a:ASt}{σ:St}{c:C}{outs:List F7}(h:FW T Γ nIn ρ a σ c outs):FW T Γ nIn ρ a σ c (thin a.nx outs):=by
 obtain ⟨q,hq,ρ',σ',k1,k2,B,k3⟩:=h
 obtain ⟨p,hp,e,ρ2,m2,r2⟩:=TG hq k1.le k2
 exact ⟨p,hp,ρ2,σ',⟨m2.le,fun s hs=>(m2.same s hs).trans (k1.same s hs)⟩,r2,B,fun N hN=>by rw [e];exact k3 N hN⟩
def FZ (x:Cx)(orc:Orc)(nIn:Nat):C→Nat→ASt→Option (List F7)
 |.skip,_,a=>some [(.norm,a)]
 |.reg gh draw l live,base,a=>(zjG x base gh draw l live a).map (thin a.nx)
 |.seq p q,base,a=>match FZ x orc nIn p base a with
  |none=>none
  |some outs=>(nP (outs.map fun o=>match o.1 with
   |.norm=>FZ x orc nIn q base o.2
   |e=>some [(e,o.2)])).map (fun ls=>thin a.nx (List.flatten ls))
 |.cond c p q,base,a=>match a.ev c with
  |some (.b tf ff)=>
   match (match assume a tf with|some a'=>FZ x orc nIn p base a'|none=>some []),(match assume a ff with|some a'=>FZ x orc nIn q base a'|none=>some []) with
   |some l,some r=>some (thin a.nx (l++r))
   |_,_=>none
  |_=>none
 |.block id p,base,a=>(FZ x orc nIn p base a).map fun outs=>outs.map fun o=>(match o.1 with|.exit j=>if j==id then .norm else .exit j|e=>e,o.2)
 |.loop p,_,a=>match O7 nIn a with
  |none=>none
  |some a'=>match orc p a' with
   |none=>none
   |some (I,mu)=>zc3 nIn (FZ x orc nIn p (zbi I.nx)) a' I mu
 |.exit id,_,a=>some [(.exit id,a)]
 |.ret,_,a=>some [(.ret,a)]
 |_,_,_=>none
theorem qQ {x:Cx}{orc:Orc}{nIn:Nat}:∀{c:C} {base:Nat} {ρ:Rho} {a:ASt} {σ:St} {outs:List F7},Jv Γ x a.nx ρ→R x.T ρ a σ→FZ x orc nIn c base a=some outs→FW x.T Γ nIn ρ a σ c outs
 |.skip,base,ρ,a,σ,outs,hx,hr,h=>by
  simp only [FZ,Option.some.injEq] at h
  subst h
  exact ⟨_,List.mem_singleton.2 rfl,ρ,σ,.refl ..,hr,0,fun N _=>rfl⟩
 |.reg gh draw l live,base,ρ,a,σ,outs,hx,hr,h=>by
  simp only [FZ] at h
  obtain ⟨os,ho,rfl⟩:=Option.map_eq_some_iff.1 h
  exact (zcB hx hr ho).thin
 |.seq p q,base,ρ,a,σ,outs,hx,hr,h=>by
  simp only [FZ] at h
  split at h
  ·cases h
  ·rename_i os ho
   obtain ⟨ls,hls,rfl⟩:=Option.map_eq_some_iff.1 h
   refine FW.thin ?_
   obtain ⟨o,hm,ρ1,σ1,k1,k2,B1,k3⟩:=qQ hx hr ho
   obtain ⟨l,hl,hlm⟩:=fJ hls hm
   obtain ⟨e,a1⟩:=o
   cases e with
   |norm=>
    dsimp only at hl k1 k2 k3
    obtain ⟨w,hw,ρ2,σ2,p1,p2,B2,p3⟩:=qQ (hx.more k1) k2 hl
    exact ⟨w,List.mem_flatten.2 ⟨l,hlm,hw⟩,ρ2,σ2,k1.trans p1,p2,max B1 B2,fun N hN=>by simp only [run,k3 N (by omega),p3 N (by omega)]⟩
   |exit j=>
    dsimp only at hl k1 k2 k3
    cases hl
    exact ⟨_,List.mem_flatten.2 ⟨_,hlm,List.mem_singleton.2 rfl⟩,ρ1,σ1,k1,k2,B1,fun N hN=>by simp only [run,k3 N hN]⟩
   |ret=>
    dsimp only at hl k1 k2 k3
    cases hl
    exact ⟨_,List.mem_flatten.2 ⟨_,hlm,List.mem_singleton.2 rfl⟩,ρ1,σ1,k1,k2,B1,fun N hN=>by simp only [run,k3 N hN]⟩
 |.cond c p q,base,ρ,a,σ,outs,hx,hr,h=>by
  simp only [FZ] at h
  split at h
  ·rename_i tf ff e
   obtain ⟨y,hy,gy⟩:=bK hr e
   cases gy with
   |b h1 h2=>
    rename_i t
    split at h
    ·rename_i l r hl hr'
     cases h
     refine FW.thin ?_
     cases t with
     |true=>
      obtain ⟨a',e1,e2,e3⟩:=ji hr (h1 rfl)
      rw [e1] at hl
      obtain ⟨w,hw,ρ2,σ2,p1,p2,B,p3⟩:=qQ (e3▸hx) e2 hl
      exact ⟨w,List.mem_append_left _ hw,ρ2,σ2,e3▸p1,p2,B,fun N hN=>by simp only [run,hy,if_true,p3 N hN]⟩
     |false=>
      obtain ⟨a',e1,e2,e3⟩:=ji hr (h2 rfl)
      rw [e1] at hr'
      obtain ⟨w,hw,ρ2,σ2,p1,p2,B,p3⟩:=qQ (e3▸hx) e2 hr'
      exact ⟨w,List.mem_append_right _ hw,ρ2,σ2,e3▸p1,p2,B,fun N hN=>by simp only [run,hy,Bool.false_eq_true,if_false,p3 N hN]⟩
    ·cases h
  ·cases h
 |.block id p,base,ρ,a,σ,outs,hx,hr,h=>by
  simp only [FZ] at h
  obtain ⟨os,ho,rfl⟩:=Option.map_eq_some_iff.1 h
  obtain ⟨o,hm,ρ1,σ1,k1,k2,B,k3⟩:=qQ hx hr ho
  refine ⟨_,List.mem_map.2 ⟨o,hm,rfl⟩,ρ1,σ1,k1,k2,B,fun N hN=>?_⟩
  obtain ⟨e,a1⟩:=o
  simp only [run,k3 N hN]
  cases e with
  |norm=>rfl
  |exit j=>dsimp only;split<;>rfl
  |ret=>rfl
 |.loop p,base,ρ,a,σ,outs,hx,hr,h=>by
  simp only [FZ] at h
  split at h
  ·cases h
  ·rename_i a' hc
   split at h
   ·cases h
   ·rename_i I mu ho
    obtain ⟨σ',c1,c2,c3⟩:=Au hr hc
    obtain ⟨w,hw,ρ2,σ2,p1,p2,B,p3⟩:=Za (Γ:=Γ) (x:=x) (b:=p) (τ:=σ) (σ:=σ') (fun hx' hr' ho'=>qQ hx' hr' ho') (c3▸hx) c1 c2 h
    exact ⟨w,hw,ρ2,σ2,c3▸p1,p2,B,p3⟩
 |.exit id,base,ρ,a,σ,outs,hx,hr,h=>by
  simp only [FZ,Option.some.injEq] at h
  subst h
  exact ⟨_,List.mem_singleton.2 rfl,ρ,σ,.refl ..,hr,0,fun N _=>rfl⟩
 |.ret,base,ρ,a,σ,outs,hx,hr,h=>by
  simp only [FZ,Option.some.injEq] at h
  subst h
  exact ⟨_,List.mem_singleton.2 rfl,ρ,σ,.refl ..,hr,0,fun N _=>rfl⟩
 |.rf _ _ _ _ _,base,ρ,a,σ,outs,hx,hr,h=>by simp only [FZ] at h;cases h
 |.stuck,base,ρ,a,σ,outs,hx,hr,h=>by simp only [FZ] at h;cases h
end Go.Ab
