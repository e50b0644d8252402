/- The machine over sets of values: operations of one kind after another, but for slices, maps and calls. -/
import Derived.Test.YtjbndifenhihhaaGreatDoorEmP9
namespace Go.Ab
open Go.Em
variable {T:Tab} {n:Nat} {ρ:Rho}
def AX.zft:AX→List Nat
 |.ptr j _ _=>[j]
 |_=>[]
theorem Ph {a:AX}{x:X}(h:G T n ρ a x):jh x=a.zft:=by
 cases h with
 |x hr=>
  cases x<;>first
   |rfl
   |(simp [X.refs] at hr)
 |_=>rfl
def known:AX→Option Bool
 |.b tf ff=>if ff.any (fun f=>f==bot) then some true else if tf.any (fun f=>f==bot) then some false else none
 |_=>none
theorem Pg (h:aW n ρ [bot]):False:=by
 have:=(h bot (List.mem_singleton.2 rfl)).2.2
 unfold bot at this
 dsimp only at this
 omega
theorem Om {a:AX}{b t:Bool}(hg:G T n ρ a (.v (.bool t)))(h:known a=some b):t=b:=by
 have key:∀{fs:List Fact},fs.any (fun f=>f==bot)=true→¬aW n ρ fs:=fun {fs} hb hf=>by
  obtain ⟨f,h1,h2⟩:=List.any_eq_true.1 hb
  have:=eq_of_beq h2
  subst this
  exact Pg (fun g hg=>by rw [List.mem_singleton.1 hg];exact hf _ h1)
 unfold known at h
 split at h
 ·cases hg with
  |b h1 h2=>
   split at h
   ·rename_i hb
    cases h
    cases t with
    |true=>rfl
    |false=>exact absurd (h2 rfl) (key hb)
   ·split at h
    ·rename_i hb
     cases h
     cases t with
     |false=>rfl
     |true=>exact absurd (h1 rfl) (key hb)
    ·cases h
 ·cases h
def zfT:AX→Option AX
 |.b tf ff=>some (.b ff tf)
 |_=>none
theorem Vj {a y:AX}{x:X}(hg:G T n ρ a x)(h:zfT a=some y):∃b,x=.v (.bool b)∧G T n ρ y (.v (.bool !b)):=by
 unfold zfT at h
 split at h
 ·cases h
  cases hg with
  |b h1 h2=>exact ⟨_,rfl,.b (fun e=>h2 (by simpa using e)) (fun e=>h1 (by simpa using e))⟩
 ·cases h
def isBool:AX→Bool
 |.b _ _=>true
 |_=>false
theorem IC {a:AX}{x:X}(hg:G T n ρ a x)(h:isBool a=true):∃b,x=.v (.bool b):=by
 unfold isBool at h
 split at h
 ·cases hg;exact ⟨_,rfl⟩
 ·cases h
def zlD (neg:Bool)(x y:AX):Option AX:=
 if isBool x&&isBool y then
  match known y with
  |some c=>if c==!neg then some x else zfT x
  |none=>match known x with
   |some c=>if c==!neg then some y else zfT y
   |none=>some (.b [] [])
 else none
theorem zfs {neg:Bool}{x y z:AX}{p q:X}(h1:G T n ρ x p)(h2:G T n ρ y q)(h:zlD neg x y=some z):∃b c,p=.v (.bool b)∧q=.v (.bool c)∧G T n ρ z (.v (.bool (if neg then !(b==c) else b==c))):=by
 unfold zlD at h
 split at h
 ·rename_i hb
  rw [Bool.and_eq_true] at hb
  obtain ⟨b,rfl⟩:=IC h1 hb.1
  obtain ⟨c,rfl⟩:=IC h2 hb.2
  refine ⟨b,c,rfl,rfl,?_⟩
  have key:∀{w u:AX} {d e:Bool},G T n ρ w (.v (.bool d))→(if e==!neg then some w else zfT w)=some u→G T n ρ u (.v (.bool (if neg then !(d==e) else d==e))):=fun {w u d e} hw hu=>by
   split at hu
   ·rename_i he
    cases hu
    have:(if neg then !(d==e) else d==e)=d:=by
     have:=eq_of_beq he
     subst this
     cases neg<;>cases d<;>rfl
    rw [this];exact hw
   ·rename_i he
    obtain ⟨b',hb',hg⟩:=Vj hw hu
    cases hb'
    have:(if neg then !(d==e) else d==e)=!d:=by
     cases neg<;>cases d<;>cases e<;>first|rfl|exact absurd rfl he
    rw [this];exact hg
  split at h
  ·rename_i e hk
   have:=Om h2 hk
   subst this
   exact key h1 h
  ·split at h
   ·rename_i e hk
    have:=Om h1 hk
    subst this
    have:=key h2 h
    rw [show (if neg then !(b==c) else b==c)=(if neg then !(c==b) else c==b) by cases neg<;>cases b<;>cases c<;>rfl]
    exact this
   ·cases h
    exact .b (fun _=>.nil) (fun _=>.nil)
 ·cases h
def y5 (a:ASt):List (Nat×Nat×Opd)→Option (List (Nat×Nat×AX))
 |[]=>some []
 |(p,q,o)::r=>match a.ev o with
  |none=>none
  |some x=>(y5 a r).map ((p,q,x)::·)
inductive G3 (T:Tab) (n:Nat) (ρ:Rho):List (Nat×Nat×AX)→List (Nat×Nat×X)→Prop where
 |nil:G3 T n ρ [] []
 |cons {p q:Nat} {a:AX} {x:X} {l:List (Nat×Nat×AX)} {m:List (Nat×Nat×X)}:G T n ρ a x→G3 T n ρ l m→G3 T n ρ ((p,q,a)::l) ((p,q,x)::m)
theorem Cm {a:ASt}{σ:St}(h:R T ρ a σ):∀{l:List (Nat×Nat×Opd)} {ys:List (Nat×Nat×AX)},y5 a l=some ys→∃xs,jo σ l=some xs∧G3 T a.nx ρ ys xs
 |[],ys,e=>by simp only [y5,Option.some.injEq] at e;subst e;exact ⟨[],rfl,.nil⟩
 |(p,q,o)::r,ys,e=>by
  unfold y5 at e
  split at e
  ·cases e
  ·rename_i y hy
   obtain ⟨ys',h1,rfl⟩:=Option.map_eq_some_iff.1 e
   obtain ⟨x,hx,hg⟩:=bK h hy
   obtain ⟨xs,hxs,hgs⟩:=Cm h h1
   exact ⟨(p,q,x)::xs,by unfold jo;rw [hx];simp only [hxs,Option.map_some],.cons hg hgs⟩
def WA (zero:List AX):List (Nat×Nat×AX)→Option (List AX)
 |[]=>some zero
 |(off,size,x)::r=>match x.cells with
  |none=>none
  |some cs=>if cs.length==size then match yF zero off cs with
   |none=>none
   |some z=>WA z r else none
theorem OQ:∀{ps:List (Nat×Nat×AX)} {qs:List (Nat×Nat×X)} {z r:List AX} {zx:List X},GL T n ρ z zx→G3 T n ρ ps qs→WA z ps=some r→∃rx,Bh zx qs=some rx∧GL T n ρ r rx
 |[],_,z,r,zx,hz,.nil,e=>by simp only [WA,Option.some.injEq] at e;subst e;exact ⟨zx,rfl,hz⟩
 |(off,size,x)::ps,_,z,r,zx,hz,.cons h1 h2,e=>by
  unfold WA at e
  split at e
  ·cases e
  ·rename_i cs hc
   obtain ⟨k1,k2⟩:=cells_ok h1 hc
   split at e
   ·rename_i hl
    split at e
    ·cases e
    ·rename_i z' hs
     obtain ⟨xr,hx,hg⟩:=uI hz k2 hs
     obtain ⟨rx,h3,h4⟩:=OQ hg h2 e
     refine ⟨rx,?_,h4⟩
     unfold Bh
     rw [k1,←k2.len,Bool.true_and,if_pos hl,hx]
     exact h3
   ·cases e
def zjU:AX→Option Lin
 |.sl _ _ _ _ l=>some l
 |.x (.sl _ _ es)=>some (.k es.length)
 |.bs _ _ l=>some l
 |_=>none
def zlx (a:ASt)(k:IntKind)(l:Lin):Out:=(inI a k l).getD (anyI a k)
def nP {α:Type}:List (Option α)→Option (List α)
 |[]=>some []
 |none::_=>none
 |some x::r=>(nP r).map (x::·)
theorem fJ {α β:Type}{f:α→Option β}:∀{l:List α} {m:List β} {x:α},nP (l.map f)=some m→x∈l→∃y,f x=some y∧y∈m
 |z::l,m,x,e,hx=>by
  rw [List.map_cons] at e
  cases hz:f z with
  |none=>rw [hz] at e;cases e
  |some y=>
   rw [hz] at e
   obtain ⟨m',hm,rfl⟩:=Option.map_eq_some_iff.1 e
   rcases List.mem_cons.1 hx with rfl|hx
   ·exact ⟨y,hz,List.mem_cons_self ..⟩
   ·obtain ⟨w,h1,h2⟩:=fJ hm hx
    exact ⟨w,h1,List.mem_cons_of_mem _ h2⟩
def Np:AX:=.x undefX
def opV (T:Tab)(a:ASt):I→Option (List Out)
 |.mov x=>(a.ev x).map fun y=>[(y,a,fp0)]
 |.pick c x y=>match a.ev c,a.ev x,a.ev y with
  |some c,some x,some y=>zgX a c x y
  |_,_,_=>none
 |.alloc zero=>if BA zero then some [(.ptr a.bx.length (.k 0) 0,{a with bx:=a.bx++[.var (Y2 zero)]},⟨true,[],[a.bx.length]⟩)] else none
 |.box x=>match a.ev x with
  |some y=>y.cells.map fun cs=>[(.ptr a.bx.length (.k 0) 0,{a with bx:=a.bx++[.var cs]},⟨true,[],[a.bx.length]⟩)]
  |none=>none
 |.build zero parts=>if BA zero then match y5 a parts with
  |none=>none
  |some ps=>(WA (Y2 zero) ps).map fun cs=>[(.agg cs,a,fp0)] else none
 |.load m p=>match a.ev p with
  |none=>none
  |some p=>match zc4 T a p with
   |none=>none
   |some outs=>nP (outs.map fun q=>(takeA m q.1).map fun y=>(y,q.2,⟨false,p.zft,[]⟩))
 |.store m p x=>match a.ev p,a.ev x with
  |some p,some y=>match y.cells with
   |none=>none
   |some cs=>(TV T a m p cs).map fun a'=>[(Np,a',⟨true,[],p.zft⟩)]
  |_,_=>none
 |.bin op x y=>match a.ev x,a.ev y with
  |some x,some y=>zlB a op x y
  |_,_=>none
 |.beq neg x y=>match a.ev x,a.ev y with
  |some x,some y=>(zlD neg x y).map fun z=>[(z,a,fp0)]
  |_,_=>none
 |.un op x=>match op,a.ev x with
  |.not,some x=>(zfT x).map fun z=>[(z,a,fp0)]
  |.neg,some (.i k l)=>some [ziF a k (.k 0) l]
  |.xor,some (.i k _)=>some [anyI a k]
  |_,_=>none
 |.conv k x=>match a.ev x with
  |some (.i _ l)=>some [zlx a k l]
  |_=>none
 |.idc x=>match a.ev x with
  |some y=>(Yt y).map fun _=>[(y,a,fp0)]
  |none=>none
 |.zfU f caps=>(zeU a caps).map fun cs=>[(.fn f cs,a,fp0)]
 |.Ro off p=>match a.ev p with
  |some (.ptr i e o)=>some [(.ptr i e (o+off),a,fp0)]
  |some (.dp cs)=>some [(.dp (cs.drop off),a,fp0)]
  |_=>none
 |.field m off x=>match a.ev x with
  |some (.agg cs)=>match m with
   |none=>(cs[off]?).map fun y=>[(y,a,fp0)]
   |some m=>if ((cs.drop off).take m).length==m then some [(.agg ((cs.drop off).take m),a,fp0)] else none
  |_=>none
 |.QF x=>match a.ev x with
  |some (.ptr i e o)=>some [(.ptr i e o,a,fp0)]
  |some (.dp cs)=>some [(.dp cs,a,fp0)]
  |some (.fn f cs)=>some [(.fn f cs,a,fp0)]
  |some (.yl i)=>some [(.yl i,a,fp0)]
  |_=>none
 |.extract x i=>match a.ev x with
  |some (.tup xs)=>(xs[i]?).map fun y=>[(y,a,fp0)]
  |_=>none
 |.len x=>match a.ev x with
  |some y=>(zjU y).map fun l=>[(.i .i64 l,a,fp0)]
  |none=>none
 |.slen x=>match a.ev x with
  |some y=>(Yt y).map fun l=>[(.i .i64 l,a,fp0)]
  |none=>none
 |.mm isMax l=>match zeU a l with
  |some [.i .i64 x,.i .i64 y]=>if isMax then some (outOf (assume a [ak y x]) (.i .i64 x)++outOf (assume a [ak x y]) (.i .i64 y))
    else some (outOf (assume a [ak x y]) (.i .i64 x)++outOf (assume a [ak y x]) (.i .i64 y))
  |_=>none
 |.QK x=>(a.ev x).map fun _=>[(.x .ifc,a,fp0)]
 |.zdg neg x=>match a.ev x with
  |some (.x .ifc)=>some [(cb neg,a,fp0)]
  |some (.x (.v .nilIface))=>some [(cb (!neg),a,fp0)]
  |some .rE=>some [(.b [] [],a,fp0)]
  |_=>none
 |_=>none
theorem zc8 (h0:ρ 0=0)(hn:0<n){y:AX}{x:X}{l:Lin}(hg:G T n ρ y x)(h:zjU y=some l):l.s<n∧((∃t s es,x=.sl t s es∧(es.length:Int)=l.v ρ)∨∃i o m,x=.bs i o m∧(m:Int)=l.v ρ):=by
 unfold zjU at h
 split at h
 ·cases h;cases hg with
  |sl h1 h2 h3 h4 h5=>exact ⟨h2,.inl ⟨_,_,_,rfl,h4⟩⟩
 ·cases h;cases hg;exact ⟨hn,.inl ⟨_,_,_,rfl,(Lin.k_v h0 _).symm⟩⟩
 ·cases h;cases hg with
  |bs h1 h2 h3 h4=>exact ⟨h2,.inr ⟨_,_,_,rfl,h4⟩⟩
 ·cases h
theorem zg5 {a:ASt}{σ:St}{i:I}{outs:List Out}(hr:R T ρ a σ)(h:opV T a i=some outs):dB T ρ a σ i outs:=by
 unfold opV at h
 split at h
 ·rename_i x
  obtain ⟨y,hy,rfl⟩:=Option.map_eq_some_iff.1 h
  obtain ⟨p,hp,hg⟩:=bK hr hy
  exact .one hr hg (fun Γ=>by simp only [au,hp,Option.map_some];rfl)
 ·rename_i c x y
  split at h
  ·rename_i c' x' y' e1 e2 e3
   obtain ⟨pc,hc,gc⟩:=bK hr e1
   obtain ⟨px,hx,gx⟩:=bK hr e2
   obtain ⟨py,hy,gy⟩:=bK hr e3
   unfold zgX at h
   split at h
   ·cases h
    cases gc with
    |b h1 h2=>
     rename_i t
     cases t with
     |true=>exact .left (pX hr (h1 rfl) gx (fun Γ=>by simp only [au,hc,hx,hy];rfl))
     |false=>exact .right (pX hr (h2 rfl) gy (fun Γ=>by simp only [au,hc,hx,hy];rfl))
   ·cases h
  ·cases h
 ·rename_i zero
  split at h
  ·rename_i hb
   cases h
   refine ⟨_,List.mem_singleton.2 rfl,ρ,.ptr σ.bx.length 0 0,σ.bx++[.var zero],.refl ..,⟨hr.zero,hr.pos,hr.F,hr.tm,hr.bx.snoc (.var (oP hr.zero hr.pos _ hb))⟩,?_,fun Γ=>?_⟩
   ·rw [hr.bx.len];exact .ptr hr.pos (Lin.k_v hr.zero 0).symm
   ·dsimp only [au];rw [hr.bx.len]
  ·cases h
 ·rename_i x
  split at h
  ·rename_i y hy
   obtain ⟨cs,hc,rfl⟩:=Option.map_eq_some_iff.1 h
   obtain ⟨p,hp,hg⟩:=bK hr hy
   obtain ⟨k1,k2⟩:=cells_ok hg hc
   refine ⟨_,List.mem_singleton.2 rfl,ρ,.ptr σ.bx.length 0 0,σ.bx++[.var p.cells],.refl ..,⟨hr.zero,hr.pos,hr.F,hr.tm,hr.bx.snoc (.var k2)⟩,?_,fun Γ=>?_⟩
   ·rw [hr.bx.len];exact .ptr hr.pos (Lin.k_v hr.zero 0).symm
   ·simp only [au,hp,k1,if_true];rw [hr.bx.len]
  ·cases h
 ·rename_i zero parts
  split at h
  ·rename_i hb
   split at h
   ·cases h
   ·rename_i ps hp
    obtain ⟨cs,hc,rfl⟩:=Option.map_eq_some_iff.1 h
    obtain ⟨xs,h1,h2⟩:=Cm hr hp
    obtain ⟨rx,h3,h4⟩:=OQ (oP hr.zero hr.pos _ hb) h2 hc
    exact .one hr (.agg h4) (fun Γ=>by simp only [au,h1,h3,Option.map_some];rfl)
  ·cases h
 ·rename_i m p
  split at h
  ·cases h
  ·rename_i p' hp'
   obtain ⟨q,hq,hg⟩:=bK hr hp'
   split at h
   ·cases h
   ·rename_i ls hl
    obtain ⟨r,hrm,ρ',xs,m1,m2,m3,m4⟩:=Zd hr hg hl
    obtain ⟨o,ho,hom⟩:=fJ h hrm
    obtain ⟨y,hy,rfl⟩:=Option.map_eq_some_iff.1 ho
    obtain ⟨x,hx,hgx⟩:=xO m3 hy
    refine ⟨_,hom,ρ',x,σ.bx,m1,m2,hgx,fun Γ=>?_⟩
    have:lN σ m q=some x:=by
     unfold lN
     rw [m4]
     exact hx
    simp only [au,hq,this,Option.map_some,Ph hg]
 ·rename_i m p x
  split at h
  ·rename_i p' y' e1 e2
   obtain ⟨q,hq,hg⟩:=bK hr e1
   obtain ⟨z,hz,hgz⟩:=bK hr e2
   split at h
   ·cases h
   ·rename_i cs hc
    obtain ⟨a',ha,rfl⟩:=Option.map_eq_some_iff.1 h
    obtain ⟨k1,k2⟩:=cells_ok hgz hc
    obtain ⟨bx,h1,h2,h3⟩:=TU hr hg k1 k2 ha
    exact ⟨_,List.mem_singleton.2 rfl,ρ,undefX,bx,⟨by dsimp only;omega,fun _ _=>rfl⟩,h2,.x rfl,fun Γ=>by simp only [au,hq,hz,h1,Option.map_some,Ph hg]⟩
  ·cases h
 ·rename_i op x y
  split at h
  ·rename_i x' y' e1 e2
   obtain ⟨p,hp,g1⟩:=bK hr e1
   obtain ⟨q,hq,g2⟩:=bK hr e2
   exact zfp hr hp hq g1 g2 h
  ·cases h
 ·rename_i neg x y
  split at h
  ·rename_i x' y' e1 e2
   obtain ⟨p,hp,g1⟩:=bK hr e1
   obtain ⟨q,hq,g2⟩:=bK hr e2
   obtain ⟨z,hz,rfl⟩:=Option.map_eq_some_iff.1 h
   obtain ⟨b,c,rfl,rfl,hgz⟩:=zfs g1 g2 hz
   exact .one hr hgz (fun Γ=>by simp only [au,hp,hq];rfl)
  ·cases h
 ·rename_i op x
  split at h
  ·rename_i x' e1
   obtain ⟨p,hp,g1⟩:=bK hr e1
   obtain ⟨z,hz,rfl⟩:=Option.map_eq_some_iff.1 h
   obtain ⟨b,rfl,hg⟩:=Vj g1 hz
   exact .one hr hg (fun Γ=>by simp only [au,hp,zgg,Option.map_some];rfl)
  ·rename_i k l e1
   cases h
   obtain ⟨p,hp,g1⟩:=bK hr e1
   cases g1 with
   |i h1 h2=>
    subst h2
    exact TR hr hr.pos h1 (fun Γ=>by simp only [au,hp,zgh,Option.map_some,Lin.k_v hr.zero];rfl)
  ·rename_i k l e1
   cases h
   obtain ⟨p,hp,g1⟩:=bK hr e1
   cases g1 with
   |i h1 h2=>
    subst h2
    obtain ⟨z,hz⟩:=zgf k (l.v ρ)
    exact kP hr (jL k z) (jM k z) (fun Γ=>by simp only [au,hp,hz,Option.map_some];rfl)
  ·cases h
 ·rename_i k x
  split at h
  ·rename_i k' l e1
   cases h
   obtain ⟨p,hp,g1⟩:=bK hr e1
   cases g1 with
   |i h1 h2=>
    subst h2
    exact LH hr h1 rfl (fun Γ=>by simp only [au,hp];rfl)
  ·cases h
 ·rename_i x
  split at h
  ·rename_i y e1
   obtain ⟨p,hp,g1⟩:=bK hr e1
   obtain ⟨l,hl,rfl⟩:=Option.map_eq_some_iff.1 h
   obtain ⟨bs,rfl,h1,h2⟩:=qM hr.zero hr.pos g1 hl
   exact .one hr g1 (fun Γ=>by simp only [au,hp];rfl)
  ·cases h
 ·rename_i f caps
  obtain ⟨cs,hc,rfl⟩:=Option.map_eq_some_iff.1 h
  obtain ⟨xs,hx,hg⟩:=Fq hr hc
  exact .one hr (.fn hg) (fun Γ=>by simp only [au,hx,Option.map_some];rfl)
 ·rename_i off p
  split at h
  ·rename_i j e o e1
   cases h
   obtain ⟨q,hq,g1⟩:=bK hr e1
   cases g1 with
   |ptr h1 h2=>exact .one hr (.ptr h1 h2) (fun Γ=>by simp only [au,hq];rfl)
  ·rename_i cs e1
   cases h
   obtain ⟨q,hq,g1⟩:=bK hr e1
   cases g1 with
   |dp h1=>exact .one hr (.dp (h1.drop off)) (fun Γ=>by simp only [au,hq];rfl)
  ·cases h
 ·rename_i m off x
  split at h
  ·rename_i cs e1
   obtain ⟨q,hq,g1⟩:=bK hr e1
   cases g1 with
   |agg h1=>
    split at h
    ·obtain ⟨y,hy,rfl⟩:=Option.map_eq_some_iff.1 h
     obtain ⟨z,hz,hg⟩:=h1.get hy
     exact .one hr hg (fun Γ=>by simp only [au,hq,hz,Option.map_some];rfl)
    ·rename_i m
     split at h
     ·rename_i hc
      cases h
      have h2:=(h1.drop off).take m
      rw [h2.len] at hc
      exact .one hr (.agg h2) (fun Γ=>by simp only [au,hq,if_pos hc];rfl)
     ·cases h
  ·cases h
 ·rename_i x
  split at h
  ·rename_i j e o e1
   cases h
   obtain ⟨q,hq,g1⟩:=bK hr e1
   cases g1 with
   |ptr h1 h2=>exact .one hr (.ptr h1 h2) (fun Γ=>by simp only [au,hq];rfl)
  ·rename_i cs e1
   cases h
   obtain ⟨q,hq,g1⟩:=bK hr e1
   cases g1 with
   |dp h1=>exact .one hr (.dp h1) (fun Γ=>by simp only [au,hq];rfl)
  ·rename_i f cs e1
   cases h
   obtain ⟨q,hq,g1⟩:=bK hr e1
   cases g1 with
   |fn h1=>exact .one hr (.fn h1) (fun Γ=>by simp only [au,hq];rfl)
  ·rename_i j e1
   cases h
   obtain ⟨q,hq,g1⟩:=bK hr e1
   cases g1
   exact .one hr .yl (fun Γ=>by simp only [au,hq];rfl)
  ·cases h
 ·rename_i x j
  split at h
  ·rename_i xs e1
   obtain ⟨q,hq,g1⟩:=bK hr e1
   cases g1 with
   |tup h1=>
    obtain ⟨y,hy,rfl⟩:=Option.map_eq_some_iff.1 h
    obtain ⟨z,hz,hg⟩:=h1.get hy
    exact .one hr hg (fun Γ=>by simp only [au,hq,hz,Option.map_some];rfl)
  ·cases h
 ·rename_i x
  split at h
  ·rename_i y e1
   obtain ⟨q,hq,g1⟩:=bK hr e1
   obtain ⟨l,hl,rfl⟩:=Option.map_eq_some_iff.1 h
   obtain ⟨h2,⟨t,s,es,rfl,h3⟩|⟨j,o,m,rfl,h3⟩⟩:=zc8 hr.zero hr.pos g1 hl
   ·exact .one hr (.i h2 h3) (fun Γ=>by simp only [au,hq];rfl)
   ·exact .one hr (.i h2 h3) (fun Γ=>by simp only [au,hq];rfl)
  ·cases h
 ·rename_i x
  split at h
  ·rename_i y e1
   obtain ⟨q,hq,g1⟩:=bK hr e1
   obtain ⟨l,hl,rfl⟩:=Option.map_eq_some_iff.1 h
   obtain ⟨bs,rfl,h1,h2⟩:=qM hr.zero hr.pos g1 hl
   exact .one hr (.i h2 h1) (fun Γ=>by simp only [au,hq];rfl)
  ·cases h
 ·rename_i isMax l
  split at h
  ·rename_i x y e1
   obtain ⟨xs,hx,hg⟩:=Fq hr e1
   cases hg with
   |cons g1 g2=>
    cases g2 with
    |cons g2 g3=>
     cases g3
     cases g1 with
     |i p1 p2=>
      cases g2 with
      |i q1 q2=>
       subst p2;subst q2
       split at h
       ·rename_i hm
        subst hm
        cases h
        by_cases hc:y.v ρ>x.v ρ
        ·exact .right (pX hr (dQ p1 q1 (by omega)) (.i q1 rfl) (fun Γ=>by simp only [au,hx,mmV,if_true,if_pos hc,Option.map_some];rfl))
        ·exact .left (pX hr (dQ q1 p1 (by omega)) (.i p1 rfl) (fun Γ=>by simp only [au,hx,mmV,if_true,if_neg hc,Option.map_some];rfl))
       ·rename_i hm
        have hm:isMax=false:=by cases isMax with|true=>exact absurd rfl hm|false=>rfl
        subst hm
        cases h
        by_cases hc:y.v ρ<x.v ρ
        ·exact .right (pX hr (dQ q1 p1 (by omega)) (.i q1 rfl) (fun Γ=>by simp only [au,hx,mmV,Bool.false_eq_true,if_false,if_pos hc,Option.map_some];rfl))
        ·exact .left (pX hr (dQ p1 q1 (by omega)) (.i p1 rfl) (fun Γ=>by simp only [au,hx,mmV,Bool.false_eq_true,if_false,if_neg hc,Option.map_some];rfl))
  ·cases h
 ·rename_i x
  obtain ⟨y,hy,rfl⟩:=Option.map_eq_some_iff.1 h
  obtain ⟨p,hp,hg⟩:=bK hr hy
  exact .one hr (.x rfl) (fun Γ=>by simp only [au,hp,Option.map_some];rfl)
 ·rename_i neg x
  split at h
  ·rename_i e1
   cases h
   obtain ⟨q,hq,g1⟩:=bK hr e1
   cases g1
   exact .one hr (xM neg) (fun Γ=>by simp only [au,hq];rfl)
  ·rename_i e1
   cases h
   obtain ⟨q,hq,g1⟩:=bK hr e1
   cases g1
   exact .one hr (xM (!neg)) (fun Γ=>by simp only [au,hq];rfl)
  ·rename_i e1
   cases h
   obtain ⟨q,hq,g1⟩:=bK hr e1
   cases g1
   ·exact .one hr (.b (fun _=>.nil) (fun _=>.nil)) (fun Γ=>by simp only [au,hq];rfl)
   ·exact .one hr (.b (fun _=>.nil) (fun _=>.nil)) (fun Γ=>by simp only [au,hq];rfl)
  ·cases h
 ·cases h
end Go.Ab
namespace Go.Ab
open Go.Em
variable {T:Tab} {n:Nat} {ρ:Rho}
def grow (a:ASt)(Fs:List Fact):ASt:={a with nx:=a.nx+1,F:=Fs++a.F}
theorem LC {a:ASt}{σ:St}{z:Int}{Fs:List Fact}(hr:R T ρ a σ)(hF:aW (a.nx+1) (upd ρ a.nx z) Fs):R T (upd ρ a.nx z) (grow a Fs) σ:=by
 have h1:=hr.more (eX ρ a.nx z)
 exact ⟨h1.zero,h1.pos,hF.append h1.F,h1.tm,h1.bx⟩
def zgl (a:ASt)(x y:Lin):Option (Lin×ASt):=
 match SK x y with
 |some l=>some (l,a)
 |none=>match low a.F x,low a.F y,high a.F x,high a.F y with
  |some lx,some ly,some hx,some hy=>some (⟨a.nx,0⟩,grow a [ak (x.up ly) ⟨a.nx,0⟩,ak (y.up lx) ⟨a.nx,0⟩,ak ⟨a.nx,0⟩ (x.up hy),ak ⟨a.nx,0⟩ (y.up hx)])
  |_,_,_,_=>none
theorem zb4 {a a':ASt}{σ:St}{x y l:Lin}(hr:R T ρ a σ)(hx:x.s<a.nx)(hy:y.s<a.nx)(h:zgl a x y=some (l,a')):∃ρ',More a.nx ρ a'.nx ρ'∧R T ρ' a' σ∧l.s<a'.nx∧l.v ρ'=x.v ρ+y.v ρ:=by
 unfold zgl at h
 split at h
 ·rename_i l' e
  cases h
  exact ⟨ρ,.refl ..,hr,AP e hx hy,nR hr.zero e⟩
 ·split at h
  ·rename_i lx ly hx' hy' e1 e2 e3 e4
   cases h
   have b1:=sZ hr.zero hr.F e1
   have b2:=sZ hr.zero hr.F e2
   have b3:=iT hr.zero hr.F e3
   have b4:=iT hr.zero hr.F e4
   have hm:=eX ρ a.nx (x.v ρ+y.v ρ)
   refine ⟨upd ρ a.nx (x.v ρ+y.v ρ),hm,LC hr (aW.cons ?_ (aW.cons ?_ (aW.cons ?_ (aW.cons ?_ .nil)))),Nat.lt_succ_self _,cZ⟩
   ·exact aC.2 ⟨Nat.lt_succ_of_lt hx,Nat.lt_succ_self _,by rw [Lin.kZ,cZ,hm.lin hx];omega⟩
   ·exact aC.2 ⟨Nat.lt_succ_of_lt hy,Nat.lt_succ_self _,by rw [Lin.kZ,cZ,hm.lin hy];omega⟩
   ·exact aC.2 ⟨Nat.lt_succ_self _,Nat.lt_succ_of_lt hx,by rw [Lin.kZ,cZ,hm.lin hx];omega⟩
   ·exact aC.2 ⟨Nat.lt_succ_self _,Nat.lt_succ_of_lt hy,by rw [Lin.kZ,cZ,hm.lin hy];omega⟩
  ·cases h
def vJ (a:ASt)(x y:Lin):Lin×ASt:=
 match zfP x y with
 |some l=>(l,a)
 |none=>(⟨a.nx,0⟩,grow a (ak (.k 0) ⟨a.nx,0⟩::((match low a.F y with|some ly=>[ak ⟨a.nx,0⟩ (x.up (-ly))]|none=>[])++(match high a.F y with|some hy=>[ak (x.up (-hy)) ⟨a.nx,0⟩]|none=>[]))))
theorem FD {a:ASt}{σ:St}{x y:Lin}(hr:R T ρ a σ)(hx:x.s<a.nx)(hle:y.v ρ≤x.v ρ):∃ρ',More a.nx ρ (vJ a x y).2.nx ρ'∧R T ρ' (vJ a x y).2 σ∧(vJ a x y).1.s<(vJ a x y).2.nx∧(vJ a x y).1.v ρ'=x.v ρ-y.v ρ∧(vJ a x y).2.bx=a.bx:=by
 unfold vJ
 split
 ·rename_i l e
  exact ⟨ρ,.refl ..,hr,TQ hr.pos e hx,TP hr.zero e,rfl⟩
 ·have hm:=eX ρ a.nx (x.v ρ-y.v ρ)
  refine ⟨upd ρ a.nx (x.v ρ-y.v ρ),hm,LC hr (aW.cons ?_ (aW.append ?_ ?_)),Nat.lt_succ_self _,cZ,rfl⟩
  ·exact aC.2 ⟨Nat.succ_pos _,Nat.lt_succ_self _,by rw [cZ,Lin.k_v (kU hr _)];omega⟩
  ·split
   ·rename_i ly e
    have:=sZ hr.zero hr.F e
    exact aW.cons (aC.2 ⟨Nat.lt_succ_self _,Nat.lt_succ_of_lt hx,by rw [Lin.kZ,cZ,hm.lin hx];omega⟩) .nil
   ·exact .nil
  ·split
   ·rename_i hy e
    have:=iT hr.zero hr.F e
    exact aW.cons (aC.2 ⟨Nat.lt_succ_of_lt hx,Nat.lt_succ_self _,by rw [Lin.kZ,cZ,hm.lin hx];omega⟩) .nil
   ·exact .nil
def maxS (a:ASt)(x y:Lin):Lin×ASt:=if leL a.F x y then (y,a) else if leL a.F y x then (x,a) else (⟨a.nx,0⟩,grow a [ak x ⟨a.nx,0⟩,ak y ⟨a.nx,0⟩])
theorem zc2 {a:ASt}{σ:St}{x y:Lin}(hr:R T ρ a σ)(hx:x.s<a.nx)(hy:y.s<a.nx):∃ρ',More a.nx ρ (maxS a x y).2.nx ρ'∧R T ρ' (maxS a x y).2 σ∧(maxS a x y).1.s<(maxS a x y).2.nx∧x.v ρ≤(maxS a x y).1.v ρ'∧y.v ρ≤(maxS a x y).1.v ρ'∧(maxS a x y).2.bx=a.bx:=by
 unfold maxS
 split
 ·rename_i h
  exact ⟨ρ,.refl ..,hr,hy,aQ hr.F h,Int.le_refl _,rfl⟩
 ·split
  ·rename_i h
   exact ⟨ρ,.refl ..,hr,hx,Int.le_refl _,aQ hr.F h,rfl⟩
  ·have hm:=eX ρ a.nx (max (x.v ρ) (y.v ρ))
   refine ⟨upd ρ a.nx (max (x.v ρ) (y.v ρ)),hm,LC hr (aW.cons ?_ (aW.cons ?_ .nil)),Nat.lt_succ_self _,by rw [cZ];omega,by rw [cZ];omega,rfl⟩
   ·exact aC.2 ⟨Nat.lt_succ_of_lt hx,Nat.lt_succ_self _,by rw [cZ,hm.lin hx];omega⟩
   ·exact aC.2 ⟨Nat.lt_succ_of_lt hy,Nat.lt_succ_self _,by rw [cZ,hm.lin hy];omega⟩
abbrev Names:=Nat→List Nat
def zka:List AX→List Lin
 |[]=>[]
 |.sl _ _ _ h _::r=>h.up 1::zka r
 |_::r=>zka r
def kindOf (T:Tab)(K:Names)(F:List Fact)(sz:Nat)(rows:List (List AX)):Option (Nat×Lin):=
 (((rows.flatMap zka++[Lin.k 1,Lin.k 2,Lin.k 3]).flatMap fun H=>(K sz).map fun k=>(k,H)).find? fun q=>rows.all fun cs=>fits T F q.2 q.1 cs)
theorem Ir {K:Names}{F:List Fact}{sz k:Nat}{H:Lin}{rows:List (List AX)}(h:kindOf T K F sz rows=some (k,H)):∀cs,cs∈rows→fits T F H k cs=true:=by
 unfold kindOf at h
 have:=List.find?_some h
 exact fun cs hc=>List.all_eq_true.1 this cs hc
def y7 (a:ASt):List (Nat×Opd)→Option (List (Nat×AX))
 |[]=>some []
 |(p,o)::r=>match a.ev o with
  |none=>none
  |some x=>(y7 a r).map ((p,x)::·)
theorem CG {a:ASt}{σ:St}(h:R T ρ a σ):∀{l:List (Nat×Opd)} {ys:List (Nat×AX)},y7 a l=some ys→∃xs,jX σ l=some xs∧GT T a.nx ρ ys xs
 |[],ys,e=>by simp only [y7,Option.some.injEq] at e;subst e;exact ⟨[],rfl,.nil⟩
 |(p,o)::r,ys,e=>by
  unfold y7 at e
  split at e
  ·cases e
  ·rename_i y hy
   obtain ⟨ys',h1,rfl⟩:=Option.map_eq_some_iff.1 e
   obtain ⟨x,hx,hg⟩:=bK h hy
   obtain ⟨xs,hxs,hgs⟩:=CG h h1
   exact ⟨(p,x)::xs,by unfold jX;rw [hx];simp only [hxs,Option.map_some],.cons hg hgs⟩
def uz (sz:Nat):Nat→List (Nat×AX)→Option (List (List AX))
 |_,[]=>some []
 |k,(i,x)::r=>match x.cells with
  |some cs=>if i==k&&cs.length==sz&&(oq cs).isEmpty then (uz sz (k+1) r).map (cs::·) else none
  |none=>none
inductive GR (T:Tab) (n:Nat) (ρ:Rho):List (List AX)→List (List X)→Prop where
 |nil:GR T n ρ [] []
 |cons {a:List AX} {x:List X} {l:List (List AX)} {m:List (List X)}:GL T n ρ a x→GR T n ρ l m→GR T n ρ (a::l) (x::m)
theorem GR.len:∀{l:List (List AX)} {m:List (List X)},GR T n ρ l m→l.length=m.length
 |_,_,.nil=>rfl
 |_,_,.cons _ h=>by rw [List.length_cons,List.length_cons,h.len]
theorem GT.len:∀{l:List (Nat×AX)} {m:List (Nat×X)},GT T n ρ l m→l.length=m.length
 |_,_,.nil=>rfl
 |_,_,.cons _ h=>by rw [List.length_cons,List.length_cons,h.len]
theorem GR.mem:∀{l:List (List AX)} {m:List (List X)} {e:List X},GR T n ρ l m→e∈m→∃c,c∈l∧GL T n ρ c e
 |_,_,e,.cons h1 h2,hm=>by
  rcases List.mem_cons.1 hm with rfl|hm
  ·exact ⟨_,List.mem_cons_self ..,h1⟩
  ·obtain ⟨c,h3,h4⟩:=h2.mem hm
   exact ⟨c,List.mem_cons_of_mem _ h3,h4⟩
theorem qZ {sz:Nat}:∀{l:List (Nat×AX)} {m:List (Nat×X)} {k:Nat} {rows:List (List AX)},GT T n ρ l m→uz sz k l=some rows→∃es,nO sz k m=some es∧GR T n ρ rows es
 |_,_,k,rows,.nil,e=>by simp only [uz,Option.some.injEq] at e;subst e;exact ⟨[],rfl,.nil⟩
 |_,_,k,rows,.cons h1 h2,e=>by
  unfold uz at e
  split at e
  ·rename_i cs hc
   obtain ⟨k1,k2⟩:=cells_ok h1 hc
   split at e
   ·rename_i hb
    obtain ⟨r',h3,rfl⟩:=Option.map_eq_some_iff.1 e
    obtain ⟨es,h4,h5⟩:=qZ h2 h3
    simp only [Bool.and_eq_true] at hb
    obtain ⟨⟨b1,b2⟩,b3⟩:=hb
    refine ⟨_::es,?_,.cons k2 h5⟩
    unfold nO
    rw [k1,←k2.len,k2.refs,b1,b2,b3]
    simp only [Bool.and_self,if_true,h4,Option.map_some]
   ·cases e
  ·cases e
def blt (l:Lin)(n:Nat):Bool:=Nat.blt l.s n
theorem Xo {l:Lin}{m:Nat}(h:blt l m=true):l.s<m:=by
 have:=Nat.le_of_ble_eq_true h
 omega
def MX (T:Tab)(K:Names)(a:ASt)(len:Nat)(zero:List X)(parts:List (Nat×Opd)):Option (List Out):=
 match y7 a parts with
 |none=>none
 |some ps=>if len==ps.length then match uz zero.length 0 ps with
  |none=>none
  |some []=>some [(.x (.sl true zero.length []),a,fp0)]
  |some rows=>match kindOf T K a.F zero.length rows with
   |some (k,H)=>if blt H a.nx then some [(.sl (some true) zero.length k H (.k rows.length),a,fp0)] else none
   |none=>none else none
theorem RX {K:Names}{a:ASt}{σ:St}{len:Nat}{zero:List X}{parts:List (Nat×Opd)}{outs:List Out}(hr:R T ρ a σ)(h:MX T K a len zero parts=some outs):dB T ρ a σ (.Az len zero parts) outs:=by
 unfold MX at h
 split at h
 ·cases h
 ·rename_i ps hp
  obtain ⟨xs,hx,hg⟩:=CG hr hp
  split at h
  ·rename_i hl
   rw [hg.len] at hl
   split at h
   ·cases h
   ·rename_i hb
    cases h
    obtain ⟨es,h1,h2⟩:=qZ hg hb
    cases h2
    exact .one hr (.x rfl) (fun Γ=>by simp only [au,hx,hl,if_true,h1,Option.map_some];rfl)
   ·rename_i rows _ hb
    split at h
    ·rename_i k H hk
     split at h
     ·rename_i hlt
      cases h
      obtain ⟨es,h1,h2⟩:=qZ hg hb
      have hf:=Ir hk
      refine .one hr (.sl (Xo hlt) hr.pos rfl (by rw [Lin.k_v hr.zero,h2.len]) fun e he=>?_) (fun Γ=>by simp only [au,hx,hl,if_true,h1,Option.map_some];rfl)
      obtain ⟨c,h3,h4⟩:=h2.mem he
      exact LV hr.zero hr.F (hf c h3) h4
     ·cases h
    ·cases h
  ·cases h
end Go.Ab
namespace Go.Ab
open Go.Em
variable {T:Tab} {n:Nat} {ρ:Rho}
theorem EH {x:X}{k:IntKind}{l:Lin}(hg:G T n ρ (.i k l) x)(hk:k=.i64)(h:0≤l.v ρ):SX x=some (l.v ρ).toNat:=by
 subst hk
 cases hg with
 |i h1 h2=>subst h2;simp only [SX,if_pos h]
theorem zK {x:X}{k:IntKind}{l:Lin}(hg:G T n ρ (.i k l) x)(h:0≤l.v ρ):ER x=some (l.v ρ).toNat:=by
 cases hg with
 |i h1 h2=>subst h2;simp only [ER,if_pos h]
def XE (a:ASt)(d:Lin):Option Opd→Option Lin
 |none=>some d
 |some o=>match a.ev o with
  |some (.i .i64 l)=>if nonneg a.F l then some l else none
  |_=>none
theorem oO {a:ASt}{σ:St}(hr:R T ρ a σ){d l:Lin}{dn:Nat}{o:Option Opd}(hd:(dn:Int)=d.v ρ)(hds:d.s<a.nx)(h:XE a d o=some l):∃m,cO σ dn o=some m∧(m:Int)=l.v ρ∧l.s<a.nx:=by
 unfold XE at h
 split at h
 ·cases h;exact ⟨dn,rfl,hd,hds⟩
 ·rename_i o
  split at h
  ·rename_i l' e
   split at h
   ·rename_i hn
    cases h
    obtain ⟨x,hx,hg⟩:=bK hr e
    have h0:=iy hr hn
    have h1:=EH hg rfl h0
    cases hg with
    |i h2 h3=>exact ⟨_,by simp only [cO,hx];exact h1,Int.toNat_of_nonneg h0,h2⟩
   ·cases h
  ·cases h
def zca (a:ASt)(neg:Bool)(x:AX):Option (List Out):=match x with
 |.bs _ _ l=>if leL a.F (.k 1) l then some [(cb neg,a,fp0)] else none
 |.sl _ _ _ _ l=>if leL a.F (.k 1) l then some [(cb neg,a,fp0)] else none
 |_=>none
theorem YA {a:ASt}{σ:St}(hr:R T ρ a σ){neg:Bool}{ox:Opd}{y:AX}{x:X}{outs:List Out}(e:σ.ev ox=some x)(hg:G T a.nx ρ y x)(h:zca a neg y=some outs):dB T ρ a σ (.za8 neg ox) outs:=by
 unfold zca at h
 split at h
 ·split at h
  ·rename_i hc
   cases h
   have c:=aQ hr.F hc
   rw [Lin.k_v hr.zero] at c
   cases hg with
   |bs h1 h2 h3 h4=>
    rename_i o' l'
    obtain ⟨m,rfl⟩:∃m,l'=m+1:=⟨l'-1,by omega⟩
    exact .one hr (xM neg) (fun Γ=>by simp only [au,e];rfl)
  ·cases h
 ·split at h
  ·rename_i hc
   cases h
   have c:=aQ hr.F hc
   rw [Lin.k_v hr.zero] at c
   cases hg with
   |sl h1 h2 h3 h4 h5=>
    rename_i tt es
    cases es with
    |nil=>simp at h4;omega
    |cons w r=>exact .one hr (xM neg) (fun Γ=>by simp only [au,e];rfl)
  ·cases h
 ·cases h
def tV:List ET→Bool
 |[.i .u8 lo hi]=>(match lo with|none=>true|some a=>leI a 0)&&(match hi with|none=>true|some b=>leI 255 b)
 |_=>false
def FT (T:Tab)(K:Names):Option Nat:=(K 1).find? fun k=>(T k).any tV
theorem MW {K:Names}{k:Nat}(h:FT T K=some k)(b:UInt8):D T 1 k [.v (.int .u8 (b.toNat:Int))]:=by
 unfold FT at h
 have hk:(T k).any tV=true:=List.find?_some (p:=fun k=>(T k).any tV) h
 obtain ⟨alt,ha,hb⟩:=List.any_eq_true.1 hk
 refine dY (Int.le_refl _) ha ?_
 unfold tV at hb
 split at hb
 ·rename_i lo hi
  rw [Bool.and_eq_true] at hb
  have:=b.toNat_lt
  refine ⟨⟨rfl,fun a e=>?_,fun c e=>?_⟩,trivial⟩
  ·subst e;have:=gB.1 hb.1;omega
  ·subst e;have:=gB.1 hb.2;omega
 ·cases hb
def zjB (T:Tab)(K:Names)(a:ASt)(x:AX):Option (List Out):=match Yt x,FT T K with
 |some l,some k=>some [(.sl (some false) 1 k (.k 1) l,a,fp0)]
 |_,_=>none
theorem zci {K:Names}{a:ASt}{σ:St}(hr:R T ρ a σ){ox:Opd}{y:AX}{x:X}{outs:List Out}(e:σ.ev ox=some x)(hg:G T a.nx ρ y x)(h:zjB T K a y=some outs):dB T ρ a σ (.s2b ox) outs:=by
 unfold zjB at h
 split at h
 ·rename_i l k h1 h2
  cases h
  obtain ⟨bs,rfl,h3,h4⟩:=qM hr.zero hr.pos hg h1
  refine .one hr (.sl hr.pos h4 rfl ?_ fun w hw=>?_) (fun Γ=>by simp only [au,e];rfl)
  ·rw [←h3];simp [byteRow]
  ·unfold byteRow at hw
   obtain ⟨b,_,rfl⟩:=List.mem_map.1 hw
   rw [Lin.k_v hr.zero]
   exact MW h2 b
 ·cases h
def MB (t:Option Bool)(whole:Bool):Option Bool:=if whole then t else match t with|some false=>some false|_=>none
theorem RG {t:Option Bool}{w:Bool}{tt:Bool}{h len:Nat}(hf:zX t tt)(hw:w=true→h=len):zX (MB t w) (tt&&h==len):=by
 unfold MB
 split
 ·rename_i e
  have:=hw e
  subst this
  simp only [beq_self_eq_true,Bool.and_true];exact hf
 ·split
  ·cases hf;rfl
  ·trivial
def Ui (a:ASt)(sz:Nat)(x:AX)(lo hi mx:Option Opd):Option (List Out):=match x with
 |.sl t s k h len=>match XE a (.k 0) lo,XE a len hi with
  |some l,some r=>if Nat.beq s sz&&leL a.F l r&&leL a.F r len then
    match vJ a r l with
    |(d,a')=>match mx with
     |none=>some [(.sl (MB t (eqL a.F r len)) s k h d,a',fp0)]
     |some m=>match a.ev m with
      |some (.i .i64 lm)=>if eqL a.F r lm&&nonneg a.F lm then some [(.sl (some true) s k h d,a',fp0)] else none
      |_=>none
    else none
  |_,_=>none
 |.x (.sl t s [])=>match XE a (.k 0) lo,XE a (.k 0) hi,mx with
  |some l,some r,none=>if Nat.beq s sz&&leL a.F l (.k 0)&&leL a.F r (.k 0) then some [(.x (.sl t s []),a,fp0)] else none
  |_,_,_=>none
 |.bs i o len=>match XE a (.k 0) lo,XE a len hi,mx with
  |some l,some r,none=>if leL a.F l r&&leL a.F r len then
    (if eqL a.F l r then some [(.x (.sl false sz []),a,fp0)]
     else if leL a.F (l.up 1) r then match a.bx[i]?,SK o l with
     |some (.row s _ _ _),some o'=>if Nat.beq s sz then match vJ a r l with
      |(d,a')=>some [(.bs i o' d,a',⟨false,[i],[]⟩)] else none
     |_,_=>none
     else none) else none
  |_,_,_=>none
 |_=>none
theorem Uh {a:ASt}{σ:St}(hr:R T ρ a σ){sz:Nat}{ox:Opd}{lo hi mx:Option Opd}{y:AX}{x:X}{outs:List Out}(e:σ.ev ox=some x)(hg:G T a.nx ρ y x)(h:Ui a sz y lo hi mx=some outs):dB T ρ a σ (.slice sz ox lo hi mx) outs:=by
 unfold Ui at h
 split at h
 ·rename_i t s k hh len
  cases hg with
  |sl g1 g2 g3 g4 g5=>
   rename_i tt es
   split at h
   ·rename_i l r e1 e2
    obtain ⟨nl,n1,n2,n3⟩:=oO hr (dn:=0) (by rw [Lin.k_v hr.zero];rfl) hr.pos e1
    obtain ⟨nr,m1,m2,m3⟩:=oO hr (dn:=es.length) g4 g2 e2
    split at h
    ·rename_i hc
     simp only [Bool.and_eq_true] at hc
     obtain ⟨⟨c1,c2⟩,c3⟩:=hc
     have d2:=aQ hr.F c2
     have d3:=aQ hr.F c3
     have c1:=Nat.eq_of_beq_eq_true c1
     subst c1
     obtain ⟨ρ',p1,p2,p3,p4,p5⟩:=FD hr m3 d2
     have q1:nl≤nr:=by omega
     have q2:nr≤es.length:=by omega
     generalize vJ a r l=q at p1 p2 p3 p4 p5 h
     obtain ⟨d,a'⟩:=q
     dsimp only at p1 p2 p3 p4 p5 h
     have hlen:((((es.take nr).drop nl).length:Nat):Int)=d.v ρ':=by
      rw [p4,List.length_drop,List.length_take,Nat.min_eq_left q2];omega
     have hel:∀w,w∈(es.take nr).drop nl→D T (hh.v ρ') k w:=fun w hw=>by
      rw [p1.lin g1];exact g5 w (List.mem_of_mem_take (List.mem_of_mem_drop hw))
     split at h
     ·cases h
      refine ⟨_,List.mem_singleton.2 rfl,ρ',_,σ.bx,p1,p2,.sl (p1.lt g1) p3 (RG (h:=nr) (len:=es.length) g3 fun hw=>?_) hlen hel,fun Γ=>?_⟩
      ·have:=I8 hr.F hw;omega
      ·simp only [au,e,n1,m1,beq_self_eq_true,Bool.true_and,q1,q2,decide_true,Bool.and_self,if_true];rfl
     ·rename_i m
      split at h
      ·rename_i lm em
       split at h
       ·rename_i hm
        cases h
        rw [Bool.and_eq_true] at hm
        obtain ⟨xm,hx,hgm⟩:=bK hr em
        have k0:=iy hr hm.2
        have k1:=EH hgm rfl k0
        have k2:=I8 hr.F hm.1
        have k3:(lm.v ρ).toNat=nr:=by omega
        rw [k3] at k1
        refine ⟨_,List.mem_singleton.2 rfl,ρ',_,σ.bx,p1,p2,.sl (p1.lt g1) p3 rfl hlen hel,fun Γ=>?_⟩
        simp only [au,e,n1,m1,beq_self_eq_true,Bool.true_and,q1,q2,decide_true,Bool.and_self,if_true,hx,Option.bind_some,k1];rfl
       ·cases h
      ·cases h
    ·cases h
   ·cases h
 ·rename_i t s
  cases hg
  split at h
  ·rename_i l r e1 e2
   obtain ⟨nl,n1,n2,n3⟩:=oO hr (dn:=0) (by rw [Lin.k_v hr.zero];rfl) hr.pos e1
   obtain ⟨nr,m1,m2,m3⟩:=oO hr (dn:=0) (by rw [Lin.k_v hr.zero];rfl) hr.pos e2
   split at h
   ·rename_i hc
    cases h
    simp only [Bool.and_eq_true] at hc
    obtain ⟨⟨c1,c2⟩,c3⟩:=hc
    have d2:=aQ hr.F c2
    have d3:=aQ hr.F c3
    rw [Lin.k_v hr.zero] at d2 d3
    have c1:=Nat.eq_of_beq_eq_true c1
    subst c1
    have:nl=0:=by omega
    subst this
    have:nr=0:=by omega
    subst this
    exact .one hr (.x rfl) (fun Γ=>by simp only [au,e,n1,List.length_nil,m1,beq_self_eq_true,Bool.true_and,Nat.le_refl,decide_true,if_true,List.take_nil,List.drop_nil,Bool.and_true];rfl)
   ·cases h
  ·cases h
 ·rename_i i o len
  cases hg with
  |bs g1 g2 g3 g4=>
   rename_i o' l'
   split at h
   ·rename_i l r e1 e2
    obtain ⟨nl,n1,n2,n3⟩:=oO hr (dn:=0) (by rw [Lin.k_v hr.zero];rfl) hr.pos e1
    obtain ⟨nr,m1,m2,m3⟩:=oO hr (dn:=l') g4 g2 e2
    split at h
    ·rename_i hc
     simp only [Bool.and_eq_true] at hc
     obtain ⟨c2,c3⟩:=hc
     have d2:=aQ hr.F c2
     have d3:=aQ hr.F c3
     have q1:nl≤nr:=by omega
     have q2:nr≤l':=by omega
     split at h
     ·rename_i he
      cases h
      have:=I8 hr.F he
      have:nl=nr:=by omega
      subst this
      exact .one hr (.x rfl) (fun Γ=>by simp only [au,e,n1,m1,q2,Nat.le_refl,decide_true,Bool.and_self,if_true,beq_self_eq_true];rfl)
     ·split at h
      ·rename_i hlt
       have d4:=aQ hr.F hlt
       rw [Lin.kZ] at d4
       have hne:(nl==nr)=false:=by rw [beq_eq_false_iff_ne];omega
       split at h
       ·rename_i s kk hh ll o2 hb ha
        split at h
        ·rename_i hs
         have hs:=Nat.eq_of_beq_eq_true hs
         subst hs
         obtain ⟨ρ',p1,p2,p3,p4,p5⟩:=FD hr m3 d2
         generalize vJ a r l=q at p1 p2 p3 p4 p5 h
         obtain ⟨d,a'⟩:=q
         dsimp only at p1 p2 p3 p4 p5 h
         cases h
         obtain ⟨b,hb',hgb⟩:=hr.bx.get hb
         cases hgb with
         |row _ _ _ _=>
          have ho:=AP ha g1 n3
          refine ⟨_,List.mem_singleton.2 rfl,ρ',.bs i (o'+nl) (nr-nl),σ.bx,p1,p2,.bs (p1.lt ho) p3 (by rw [p1.lin ho,nR hr.zero ha];omega) (by rw [p4];omega),fun Γ=>?_⟩
          simp only [au,e,n1,m1,q1,q2,decide_true,Bool.and_self,if_true,hne,Bool.false_eq_true,if_false,hb',beq_self_eq_true]
        ·cases h
       ·cases h
      ·cases h
    ·cases h
   ·cases h
 ·cases h
def Ug (a:ASt)(x:AX)(lo hi:Option Opd):Option (List Out):=match Yt x with
 |some len=>match XE a (.k 0) lo,XE a len hi with
  |some l,some r=>if leL a.F l r&&leL a.F r len then match vJ a r l with
   |(d,a')=>some [(.s d,a',fp0)] else none
  |_,_=>none
 |none=>none
theorem extract_size {bs:ByteArray}{l r:Nat}(h1:l≤r)(h2:r≤bs.size):(bs.extract l r).size=r-l:=by
 rw [ByteArray.size_extract,Nat.min_eq_left h2]
theorem Uf {a:ASt}{σ:St}(hr:R T ρ a σ){ox:Opd}{lo hi:Option Opd}{y:AX}{x:X}{outs:List Out}(e:σ.ev ox=some x)(hg:G T a.nx ρ y x)(h:Ug a y lo hi=some outs):dB T ρ a σ (.sslice ox lo hi) outs:=by
 unfold Ug at h
 split at h
 ·rename_i len hl
  obtain ⟨bs,rfl,g4,g2⟩:=qM hr.zero hr.pos hg hl
  split at h
  ·rename_i l r e1 e2
   obtain ⟨nl,n1,n2,n3⟩:=oO hr (dn:=0) (by rw [Lin.k_v hr.zero];rfl) hr.pos e1
   obtain ⟨nr,m1,m2,m3⟩:=oO hr (dn:=bs.size) g4 g2 e2
   split at h
   ·rename_i hc
    simp only [Bool.and_eq_true] at hc
    obtain ⟨c2,c3⟩:=hc
    have d2:=aQ hr.F c2
    have d3:=aQ hr.F c3
    obtain ⟨ρ',p1,p2,p3,p4,p5⟩:=FD hr m3 d2
    have q1:nl≤nr:=by omega
    have q2:nr≤bs.size:=by omega
    generalize vJ a r l=q at p1 p2 p3 p4 p5 h
    obtain ⟨d,a'⟩:=q
    dsimp only at p1 p2 p3 p4 p5 h
    cases h
    refine ⟨_,List.mem_singleton.2 rfl,ρ',.v (.string (bs.extract nl nr)),σ.bx,p1,p2,.s p3 (by rw [p4,extract_size q1 q2];omega),fun Γ=>?_⟩
    simp only [au,e,n1,m1,q1,q2,decide_true,Bool.and_self,if_true];rfl
   ·cases h
  ·cases h
 ·cases h
end Go.Ab
namespace Go.Ab
open Go.Em
variable {T:Tab} {n:Nat} {ρ:Rho}
def Jd (l:Lin):Option Nat:=if Nat.beq l.s 0 then (match l.c with|.ofNat m=>some m|_=>none) else none
theorem Af (h0:ρ 0=0){l:Lin}{m:Nat}(h:Jd l=some m):l.v ρ=m:=by
 unfold Jd at h
 split at h
 ·rename_i e
  split at h
  ·rename_i m' hc
   cases h
   unfold Lin.v
   rw [Nat.eq_of_beq_eq_true e,h0,hc]
   simp
  ·cases h
 ·cases h
theorem dB.outs {a:ASt}{σ:St}{i:I}{x:X}{fp:FP}{f:List AX×ASt→Out}{l:List (List AX×ASt)}{q:List AX×ASt}{ρ':Rho}(hq:q∈l)(hm:More a.nx ρ (f q).2.1.nx ρ')(hr:R T ρ' (f q).2.1 σ)(hg:G T (f q).2.1.nx ρ' (f q).1 x)(hfp:(f q).2.2=fp)(hs:∀Γ,au Γ σ i=some (x,σ.bx,fp)):dB T ρ a σ i (l.map f):=
 ⟨f q,List.mem_map.2 ⟨q,hq,rfl⟩,ρ',x,σ.bx,hm,hr,hg,by rw [hfp];exact hs⟩
def VI (T:Tab)(a:ASt)(arr:Option Nat)(sz:Nat)(x j:AX):Option (List Out):=match j with
 |.i _ l=>if nonneg a.F l then match arr,x with
  |none,.sl _ s k h len=>if Nat.beq s sz&&leL a.F (l.up 1) len then some ((VE T a k h).map fun q=>(.dp q.1,q.2,fp0)) else none
  |none,.bs i o len=>match a.bx[i]?,SK o l with
   |some (.row s _ _ _),some o'=>if Nat.beq s sz&&leL a.F (l.up 1) len then some [(.ptr i o' 0,a,⟨false,[i],[]⟩)] else none
   |_,_=>none
  |some len,.ptr i e o=>match Jd l with
   |some m=>if Nat.blt m len then some [(.ptr i e (o+m*sz),a,fp0)] else none
   |none=>none
  |some len,.dp cs=>match Jd l with
   |some m=>if Nat.blt m len then some [(.dp (cs.drop (m*sz)),a,fp0)] else none
   |none=>none
  |_,_=>none else none
 |_=>none
theorem eF {m k:Nat}(h:Nat.blt m k=true):m<k:=by
 have:=Nat.le_of_ble_eq_true h
 omega
theorem VH {a:ASt}{σ:St}(hr:R T ρ a σ){arr:Option Nat}{sz:Nat}{ox oj:Opd}{y z:AX}{x j:X}{outs:List Out}(e1:σ.ev ox=some x)(e2:σ.ev oj=some j)(g1:G T a.nx ρ y x)(g2:G T a.nx ρ z j)(h:VI T a arr sz y z=some outs):dB T ρ a σ (.iaddr arr sz ox oj) outs:=by
 unfold VI at h
 split at h
 ·rename_i kd l
  split at h
  ·rename_i hn
   have h0:=iy hr hn
   have hj:=zK g2 h0
   have hls:l.s<a.nx:=by cases g2 with|i h1 _=>exact h1
   have zkf:((l.v ρ).toNat:Int)=l.v ρ:=Int.toNat_of_nonneg h0
   generalize (l.v ρ).toNat=m at hj zkf
   split at h
   ·rename_i t s k hh len
    split at h
    ·rename_i hc
     cases h
     rw [Bool.and_eq_true] at hc
     have c2:=aQ hr.F hc.2
     rw [Lin.kZ] at c2
     have c1:=Nat.eq_of_beq_eq_true hc.1
     subst c1
     cases g1 with
     |sl q1 q2 q3 q4 q5=>
      rename_i tt es
      obtain ⟨w,hw,hmem⟩:=jC (l:=es) (i:=m) (by omega)
      obtain ⟨q,hq,ρ',m1,m2,m3⟩:=yh hr q1 (q5 w hmem)
      exact .outs hq m1 m2 (.dp m3) rfl (fun Γ=>by simp only [au,e1,e2,Option.bind_some,hj,beq_self_eq_true,if_true,hw,Option.map_some];rfl)
    ·cases h
   ·rename_i i o len
    split at h
    ·rename_i s kk hh ll o' hb ha
     split at h
     ·rename_i hc
      cases h
      rw [Bool.and_eq_true] at hc
      have c2:=aQ hr.F hc.2
      rw [Lin.kZ] at c2
      have c1:=Nat.eq_of_beq_eq_true hc.1
      subst c1
      cases g1 with
      |bs q1 q2 q3 q4=>
       rename_i off ln
       obtain ⟨b,hb',hgb⟩:=hr.bx.get hb
       cases hgb with
       |row _ _ _ _=>
        have hlt:decide (m<ln)=true:=decide_eq_true (by omega)
        exact dB.one (x:=.ptr i (off+m) 0) hr (.ptr (AP ha q1 hls) (by rw [nR hr.zero ha];omega)) (fun Γ=>by simp only [au,e1,e2,Option.bind_some,hj,hb',beq_self_eq_true,hlt,Bool.and_self,if_true])
     ·cases h
    ·cases h
   ·rename_i len i e o
    split at h
    ·rename_i m' hm
     split at h
     ·rename_i hc
      cases h
      have:=Af hr.zero hm
      have:m=m':=by omega
      subst this
      cases g1 with
      |ptr q1 q2=>exact .one hr (.ptr q1 q2) (fun Γ=>by simp only [au,e1,e2,Option.bind_some,hj,if_pos (eF hc)];rfl)
     ·cases h
    ·cases h
   ·rename_i len cs
    split at h
    ·rename_i m' hm
     split at h
     ·rename_i hc
      cases h
      have:=Af hr.zero hm
      have:m=m':=by omega
      subst this
      cases g1 with
      |dp q1=>exact .one hr (.dp (q1.drop _)) (fun Γ=>by simp only [au,e1,e2,Option.bind_some,hj,if_pos (eF hc)];rfl)
     ·cases h
    ·cases h
   ·cases h
  ·cases h
 ·cases h
def Ue (k:IntKind):List AX→Option (Int×Int)
 |[]=>none
 |[.i k' l]=>if k'=k&&Nat.beq l.s 0 then some (l.c,l.c) else none
 |.i k' l::r=>if k'=k&&Nat.beq l.s 0 then (Ue k r).map fun q=>(if leI l.c q.1 then l.c else q.1,if leI q.2 l.c then l.c else q.2) else none
 |_=>none
theorem Nz (h0:ρ 0=0){k:IntKind}:∀{l:List AX} {m:List X} {lo hi:Int} {j:Nat} {x:X},GL T n ρ l m→Ue k l=some (lo,hi)→m[j]?=some x→∃z,x=.v (.int k z)∧lo≤z∧z≤hi
 |[a],_,lo,hi,j,x,.cons g1 .nil,h,hx=>by
  unfold Ue at h
  split at h
  ·rename_i heq;cases heq
  ·rename_i k' l heq
   cases heq
   split at h
   ·rename_i hc
    cases h
    simp only [Bool.and_eq_true,decide_eq_true_eq] at hc
    obtain ⟨rfl,c2⟩:=hc
    cases j with
    |zero=>
     simp at hx;subst hx
     cases g1 with
     |i h1 h2=>
      have:l.v ρ=l.c:=by unfold Lin.v;rw [Nat.eq_of_beq_eq_true c2,h0];omega
      exact ⟨_,rfl,by omega,by omega⟩
    |succ j=>simp at hx
   ·cases h
  ·rename_i k' l r hne heq;cases heq;exact (hne rfl).elim
  ·cases h
 |a::b::r,_,lo,hi,j,x,.cons g1 g2,h,hx=>by
  unfold Ue at h
  split at h
  ·rename_i heq;cases heq
  ·rename_i k' l heq;cases heq
  ·rename_i k' l r' _ heq
   cases heq
   split at h
   ·rename_i hc
    obtain ⟨⟨lo',hi'⟩,hq,he⟩:=Option.map_eq_some_iff.1 h
    dsimp only at he
    cases he
    simp only [Bool.and_eq_true,decide_eq_true_eq] at hc
    obtain ⟨rfl,c2⟩:=hc
    have b1:∀u v:Int,(if leI u v then u else v)≤u∧(if leI u v then u else v)≤v:=fun u v=>by
     split
     ·rename_i hle;have:=gB.1 hle;omega
     ·rename_i hle;have:¬u≤v:=fun h=>hle (gB.2 h);omega
    have b2:∀u v:Int,u≤(if leI u v then v else u)∧v≤(if leI u v then v else u):=fun u v=>by
     split
     ·rename_i hle;have:=gB.1 hle;omega
     ·rename_i hle;have:¬u≤v:=fun h=>hle (gB.2 h);omega
    have d1:=b1 l.c lo'
    have d2:=b2 hi' l.c
    cases j with
    |zero=>
     simp at hx;subst hx
     cases g1 with
     |i h1 h2=>
      have:l.v ρ=l.c:=by unfold Lin.v;rw [Nat.eq_of_beq_eq_true c2,h0];omega
      exact ⟨_,rfl,by omega,by omega⟩
    |succ j=>
     obtain ⟨z,rfl,z1,z2⟩:=Nz h0 g2 hq (by simpa using hx)
     exact ⟨z,rfl,by omega,by omega⟩
   ·cases h
  ·cases h
def zfB (a:ASt)(len sz:Nat)(m:Option Nat)(x j:AX):Option (List Out):=match x,j with
 |.agg cs,.i _ l=>match Jd l with
  |some c=>if Nat.blt c len then (match m with
    |none=>(cs[c*sz]?).map fun y=>[(y,a,fp0)]
    |some m=>if ((cs.drop (c*sz)).take m).length==m then some [(.agg ((cs.drop (c*sz)).take m),a,fp0)] else none) else none
  |none=>match m,cs with
   |none,.i k _::_=>if Nat.beq sz 1&&Nat.beq cs.length len&&nonneg a.F l&&leL a.F (l.up 1) (.k len) then (Ue k cs).map fun q=>[SV a k (bnd ⟨a.nx,0⟩ (some q.1) (some q.2))] else none
   |_,_=>none
 |_,_=>none
theorem zaN {a:ASt}{σ:St}(hr:R T ρ a σ){len sz:Nat}{m:Option Nat}{ox oj:Opd}{y z:AX}{x j:X}{outs:List Out}(e1:σ.ev ox=some x)(e2:σ.ev oj=some j)(g1:G T a.nx ρ y x)(g2:G T a.nx ρ z j)(h:zfB a len sz m y z=some outs):dB T ρ a σ (.aidx len sz m ox oj) outs:=by
 unfold zfB at h
 split at h
 ·rename_i cs kd l
  cases g1 with
  |agg q1=>
   rename_i xs
   split at h
   ·rename_i c hc
    have hv:=Af hr.zero hc
    have hj:=zK g2 (by omega)
    rw [hv,Int.toNat_natCast] at hj
    split at h
    ·rename_i hb
     have hlt:=eF hb
     split at h
     ·obtain ⟨w,hw,rfl⟩:=Option.map_eq_some_iff.1 h
      obtain ⟨u,hu,hg⟩:=q1.get hw
      exact .one hr hg (fun Γ=>by simp only [au,e1,e2,Option.bind_some,hj,if_pos hlt,hu,Option.map_some];rfl)
     ·rename_i m
      split at h
      ·rename_i hl
       cases h
       have q2:=(q1.drop (c*sz)).take m
       rw [q2.len] at hl
       exact .one hr (.agg q2) (fun Γ=>by simp only [au,e1,e2,Option.bind_some,hj,if_pos hlt,if_pos hl];rfl)
      ·cases h
    ·cases h
   ·split at h
    ·rename_i k l' r
     split at h
     ·rename_i hc
      obtain ⟨⟨lo,hi⟩,hq,rfl⟩:=Option.map_eq_some_iff.1 h
      simp only [Bool.and_eq_true] at hc
      obtain ⟨⟨⟨c1,c2⟩,c3⟩,c4⟩:=hc
      have c1:=Nat.eq_of_beq_eq_true c1
      subst c1
      have c2:=Nat.eq_of_beq_eq_true c2
      have d3:=iy hr c3
      have d4:=aQ hr.F c4
      rw [Lin.kZ,Lin.k_v hr.zero] at d4
      have hj:=zK g2 d3
      have hlen:=q1.len
      have hlt:(l.v ρ).toNat<len:=by omega
      have hx:xs[(l.v ρ).toNat]?=some xs[(l.v ρ).toNat]:=List.getElem?_eq_getElem (by omega)
      obtain ⟨w,hw,w1,w2⟩:=Nz hr.zero q1 hq hx
      rw [hw] at hx
      refine ku hr (z:=w) (uD (kU hr _) (Nat.succ_pos _) (Nat.lt_succ_self _) (by rw [cZ];intro a e;cases e;exact w1) (by rw [cZ];intro a e;cases e;exact w2)) (fun Γ=>?_)
      simp only [au,e1,e2,Option.bind_some,hj,if_pos hlt,Nat.mul_one,hx,Option.map_some];rfl
     ·cases h
    ·cases h
 ·cases h
def zcd (a:ASt)(x j:AX):Option (List Out):=match Yt x,j with
 |some len,.i _ l=>if nonneg a.F l&&leL a.F (l.up 1) len then some [SV a .u8 (bnd ⟨a.nx,0⟩ (some 0) (some 255))] else none
 |_,_=>none
theorem YC {a:ASt}{σ:St}(hr:R T ρ a σ){ox oj:Opd}{y z:AX}{x j:X}{outs:List Out}(e1:σ.ev ox=some x)(e2:σ.ev oj=some j)(g1:G T a.nx ρ y x)(g2:G T a.nx ρ z j)(h:zcd a y z=some outs):dB T ρ a σ (.sidx ox oj) outs:=by
 unfold zcd at h
 split at h
 ·rename_i len kd l hl
  obtain ⟨bs,rfl,s1,s2⟩:=qM hr.zero hr.pos g1 hl
  split at h
  ·rename_i hc
   cases h
   rw [Bool.and_eq_true] at hc
   have d3:=iy hr hc.1
   have d4:=aQ hr.F hc.2
   rw [Lin.kZ] at d4
   have hj:=zK g2 d3
   have hlt:(l.v ρ).toNat<bs.size:=by omega
   have hb:bs[(l.v ρ).toNat]?=some bs[(l.v ρ).toNat]:=getElem?_pos bs _ hlt
   have:=(bs[(l.v ρ).toNat]).toNat_lt
   refine ku hr (z:=((bs[(l.v ρ).toNat]).toNat:Int)) (uD (kU hr _) (Nat.succ_pos _) (Nat.lt_succ_self _) (by rw [cZ];intro a e;cases e;omega) (by rw [cZ];intro a e;cases e;omega)) (fun Γ=>?_)
   simp only [au,e1,e2,Option.bind_some,hj,hb];rfl
  ·cases h
 ·cases h
end Go.Ab
namespace Go.Ab
open Go.Em
variable {T:Tab} {n:Nat} {ρ:Rho}
def Qr (F:List Fact)(l:Lin)(bytes:Nat):Bool:=match high F l with
 |some (.ofNat c)=>dD c bytes
 |_=>false
theorem UH {c m bytes:Nat}(h:dD c bytes=true)(hm:m≤c):dD m bytes=true:=by
 simp only [dD,Bool.and_eq_true,decide_eq_true_eq] at h ⊢
 exact ⟨Nat.le_trans (Nat.mul_le_mul_right _ hm) h.1,by omega⟩
theorem xX {F:List Fact}(h0:ρ 0=0)(hF:aW n ρ F){l:Lin}{bytes m:Nat}(h:Qr F l bytes=true)(hm:(m:Int)=l.v ρ):dD m bytes=true:=by
 unfold Qr at h
 split at h
 ·rename_i c e
  have b:=iT h0 hF e
  simp only [Int.ofNat_eq_natCast] at b
  exact UH h (by omega)
 ·cases h
def zcY (T:Tab)(K:Names)(a:ASt)(bytes:Nat)(zero:List X)(x c:AX):Option (List Out):=match x,c with
 |.i .i64 l,.i .i64 lc=>if nonneg a.F l&&leL a.F l lc&&Qr a.F lc bytes&&BA zero then match kindOf T K a.F zero.length [Y2 zero] with
  |some (k,H)=>if blt H a.nx then some [(.bs a.bx.length (.k 0) l,{a with bx:=a.bx++[.row zero.length k H l]},⟨true,[],[a.bx.length]⟩)] else none
  |none=>none else none
 |_,_=>none
theorem Y4 {K:Names}{a:ASt}{σ:St}(hr:R T ρ a σ){bytes:Nat}{zero:List X}{ox oc:Opd}{y z:AX}{x c:X}{outs:List Out}(e1:σ.ev ox=some x)(e2:σ.ev oc=some c)(g1:G T a.nx ρ y x)(g2:G T a.nx ρ z c)(h:zcY T K a bytes zero y z=some outs):dB T ρ a σ (.mksl bytes zero ox oc) outs:=by
 unfold zcY at h
 split at h
 ·rename_i l lc
  split at h
  ·rename_i hc
   simp only [Bool.and_eq_true] at hc
   obtain ⟨⟨⟨c1,c2⟩,c3⟩,c4⟩:=hc
   split at h
   ·rename_i k H hk
    split at h
    ·rename_i hb
     cases h
     have d1:=iy hr c1
     have d2:=aQ hr.F c2
     have n1:=EH g1 rfl d1
     have n2:=EH g2 rfl (by omega)
     have hls:l.s<a.nx:=by cases g1 with|i h1 _=>exact h1
     have hz:D T (H.v ρ) k zero:=LV hr.zero hr.F (Ir hk _ (List.mem_singleton.2 rfl)) (oP hr.zero hr.pos _ c4)
     have hroom:=xX hr.zero hr.F c3 (m:=(lc.v ρ).toNat) (by omega)
     have hle:(l.v ρ).toNat≤(lc.v ρ).toNat:=by omega
     refine ⟨_,List.mem_singleton.2 rfl,ρ,.bs σ.bx.length 0 (l.v ρ).toNat,σ.bx++[.row zero.length (List.replicate (l.v ρ).toNat zero)],.refl ..,⟨hr.zero,hr.pos,hr.F,hr.tm,hr.bx.snoc (.row (Xo hb) hls (by rw [List.length_replicate];omega) fun w hw=>?_)⟩,?_,fun Γ=>?_⟩
     ·rw [(List.mem_replicate.1 hw).2];exact hz
     ·rw [hr.bx.len];exact .bs hr.pos hls (by rw [Lin.k_v hr.zero];rfl) (by omega)
     ·simp only [au,e1,e2,Option.bind_some,n1,n2,hle,hroom,decide_true,Bool.and_self,if_true]
      rw [hr.bx.len]
    ·cases h
   ·cases h
  ·cases h
 ·cases h
structure Src where
 sz:Nat
 k:Nat
 h:Lin
 l:Lin
def zjy (a:ASt):AX→Option Src
 |.sl _ sz k h l=>some ⟨sz,k,h,l⟩
 |.x (.sl _ sz [])=>some ⟨sz,0,.k 1,.k 0⟩
 |.bs i o l=>match a.bx[i]?,SK o l with
  |some (.row sz k h rl),some e=>if leL a.F e rl then some ⟨sz,k,h,l⟩ else none
  |_,_=>none
 |_=>none
def wz:AX→List Nat
 |.bs j _ _=>[j]
 |_=>[]
theorem zb8 {a:ASt}{σ:St}(hr:R T ρ a σ){y:AX}{x:X}{s:Src}(hg:G T a.nx ρ y x)(h:zjy a y=some s):∃es,nG σ.bx x=some (s.sz,es)∧s.h.s<a.nx∧s.l.s<a.nx∧(es.length:Int)=s.l.v ρ∧(∀e,e∈es→D T (s.h.v ρ) s.k e)∧x.rows=wz y:=by
 unfold zjy at h
 split at h
 ·cases h
  cases hg with
  |sl h1 h2 h3 h4 h5=>exact ⟨_,rfl,h1,h2,h4,h5,rfl⟩
 ·cases h
  cases hg
  exact ⟨[],rfl,hr.pos,hr.pos,by rw [Lin.k_v hr.zero];rfl,(fun e he=>by cases he),rfl⟩
 ·split at h
  ·rename_i sz k hh rl e hb ha
   split at h
   ·rename_i hc
    cases h
    have c:=aQ hr.F hc
    rw [nR hr.zero ha] at c
    cases hg with
    |bs q1 q2 q3 q4=>
     rename_i i o l o' l'
     obtain ⟨b,hb',hgb⟩:=hr.bx.get hb
     cases hgb with
     |row w1 w2 w3 w4=>
      rename_i es
      have hle:o'+l'≤es.length:=by omega
      refine ⟨(es.drop o').take l',by simp only [nG,rowOf,hb',if_pos hle],w1,q2,?_,fun w hw=>w4 w (List.mem_of_mem_drop (List.mem_of_mem_take hw)),rfl⟩
      rw [List.length_take,List.length_drop,Nat.min_eq_left (by omega)];exact q4
   ·cases h
  ·cases h
 ·cases h
def zdc (a:ASt)(k1:Nat)(h1 l1:Lin)(k2:Nat)(h2 l2:Lin):Option (Nat×Lin×ASt):=
 if leL a.F l1 (.k 0) then some (k2,h2,a)
 else if leL a.F l2 (.k 0) then some (k1,h1,a)
 else if Nat.beq k1 k2 then (match maxS a h1 h2 with|(H,a')=>some (k1,H,a')) else none
theorem Zh {a a':ASt}{σ:St}(hr:R T ρ a σ){k1 k2 k:Nat}{h1 l1 h2 l2 H:Lin}{e1 e2:List (List X)}(s1:h1.s<a.nx)(s2:h2.s<a.nx)(n1:(e1.length:Int)=l1.v ρ)(n2:(e2.length:Int)=l2.v ρ)(d1:∀e,e∈e1→D T (h1.v ρ) k1 e)(d2:∀e,e∈e2→D T (h2.v ρ) k2 e)(h:zdc a k1 h1 l1 k2 h2 l2=some (k,H,a')):
  ∃ρ',More a.nx ρ a'.nx ρ'∧R T ρ' a' σ∧H.s<a'.nx∧(∀e,e∈e1++e2→D T (H.v ρ') k e)∧a'.bx=a.bx:=by
 unfold zdc at h
 split at h
 ·rename_i hc
  cases h
  have c:=aQ hr.F hc
  rw [Lin.k_v hr.zero] at c
  have:e1=[]:=List.eq_nil_of_length_eq_zero (by omega)
  subst this
  exact ⟨ρ,.refl ..,hr,s2,d2,rfl⟩
 ·split at h
  ·rename_i hc
   cases h
   have c:=aQ hr.F hc
   rw [Lin.k_v hr.zero] at c
   have:e2=[]:=List.eq_nil_of_length_eq_zero (by omega)
   subst this
   exact ⟨ρ,.refl ..,hr,s1,by rw [List.append_nil];exact d1,rfl⟩
  ·split at h
   ·rename_i hk
    have hk:=Nat.eq_of_beq_eq_true hk
    subst hk
    obtain ⟨ρ',p1,p2,p3,p4,p5,p6⟩:=zc2 hr s1 s2
    generalize maxS a h1 h2=q at p1 p2 p3 p4 p5 p6 h
    obtain ⟨H',a''⟩:=q
    dsimp only at p1 p2 p3 p4 p5 p6 h
    cases h
    refine ⟨ρ',p1,p2,p3,fun e he=>?_,p6⟩
    rcases List.mem_append.1 he with he|he
    ·exact kQ p4 (d1 e he)
    ·exact kQ p5 (d2 e he)
   ·cases h
def zjf (a:ASt)(bytes:Nat)(k1:Nat)(h1 l1:Lin)(s:Src):Option (Nat×Lin×Lin×ASt):=match zgl a l1 s.l with
 |some (N,a1)=>if Qr a1.F N bytes then match zdc a1 k1 h1 l1 s.k s.h s.l with
  |some (k,H,a2)=>some (k,H,N,a2)
  |none=>none else none
 |none=>none
theorem zb5 {a a':ASt}{x y l:Lin}(h:zgl a x y=some (l,a')):a'.bx=a.bx:=by
 unfold zgl at h
 split at h
 ·cases h;rfl
 ·split at h
  ·cases h;rfl
  ·cases h
theorem Xq {a a':ASt}{σ:St}(hr:R T ρ a σ){bytes k1 k:Nat}{h1 l1 H N:Lin}{s:Src}{e1 e2:List (List X)}(s1:h1.s<a.nx)(t1:l1.s<a.nx)(s2:s.h.s<a.nx)(t2:s.l.s<a.nx)(n1:(e1.length:Int)=l1.v ρ)(n2:(e2.length:Int)=s.l.v ρ)(d1:∀e,e∈e1→D T (h1.v ρ) k1 e)(d2:∀e,e∈e2→D T (s.h.v ρ) s.k e)(h:zjf a bytes k1 h1 l1 s=some (k,H,N,a')):
  ∃ρ',More a.nx ρ a'.nx ρ'∧R T ρ' a' σ∧H.s<a'.nx∧N.s<a'.nx∧((e1.length+e2.length:Nat):Int)=N.v ρ'∧(∀e,e∈e1++e2→D T (H.v ρ') k e)∧dD (e1.length+e2.length) bytes=true∧a'.bx=a.bx:=by
 unfold zjf at h
 split at h
 ·rename_i N' a1 hs
  obtain ⟨ρ1,p1,p2,p3,p4⟩:=zb4 hr t1 t2 hs
  split at h
  ·rename_i hroom
   split at h
   ·rename_i k' H' a2 hj
    cases h
    have hN:((e1.length+e2.length:Nat):Int)=N.v ρ1:=by rw [p4];omega
    obtain ⟨ρ2,q1,q2,q3,q4,q5⟩:=Zh p2 (p1.lt s1) (p1.lt s2) (by rw [p1.lin t1];exact n1) (by rw [p1.lin t2];exact n2) (by rw [p1.lin s1];exact d1) (by rw [p1.lin s2];exact d2) hj
    exact ⟨ρ2,p1.trans q1,q2,q3,q1.lt p3,by rw [q1.lin p3];exact hN,q4,xX p2.zero p2.F hroom hN,by rw [q5,zb5 hs]⟩
   ·cases h
  ·cases h
 ·cases h
def zje (own:Bool)(a:ASt)(sz bytes k1:Nat)(h1 l1:Lin)(x:AX)(s:Src):Option (List Out):=
 match zjf a bytes k1 h1 l1 s with
 |some (k,H,N,a')=>
  if own then
   if leL a.F (.k 1) s.l then some [(.bs a.bx.length (.k 0) N,{a' with bx:=a'.bx++[.row sz k H N]},⟨true,wz x,[a.bx.length]⟩)] else none
  else some [(.sl (some false) sz k H N,a',⟨false,wz x,[]⟩)]
 |none=>none
def zlS (own:Bool)(a:ASt)(sz bytes:Nat)(y x:AX):Option (List Out):=match zjy a x with
 |none=>none
 |some s=>if Nat.beq s.sz sz then match y with
  |.sl (some true) sz0 k1 h1 l1=>if Nat.beq sz0 sz then
    (if own&&leL a.F s.l (.k 0)&&Qr a.F l1 bytes then some [(.sl (some true) sz k1 h1 l1,a,⟨true,wz x,[]⟩)] else zje own a sz bytes k1 h1 l1 x s) else none
  |.x (.sl true sz0 [])=>if Nat.beq sz0 sz then
    (if own&&leL a.F s.l (.k 0)&&Qr a.F (.k 0) bytes then some [(.x (.sl true sz []),a,⟨true,wz x,[]⟩)] else zje own a sz bytes 0 (.k 1) (.k 0) x s) else none
  |.bs i o l=>match a.bx[i]?,SK o l with
   |some (.row sz0 k1 h1 rl),some e=>if Nat.beq sz0 sz&&eqL a.F e rl&&!ou i (wz x) then match zjf a bytes k1 h1 l s with
    |some (k,H,N,a')=>some [(.bs a.bx.length (.k 0) N,{a' with bx:=a'.bx.set i .dead++[.row sz k H N]},⟨true,wz x,[i,a.bx.length]⟩)]
    |none=>none else none
   |_,_=>none
  |_=>none else none
theorem Xp {own:Bool}{a:ASt}{σ:St}(hr:R T ρ a σ){sz bytes k1:Nat}{h1 l1:Lin}{s:Src}{xa:AX}{oy ox:Opd}{es new:List (List X)}{x:X}{outs:List Out}
  (s1:h1.s<a.nx) (t1:l1.s<a.nx) (s2:s.h.s<a.nx) (t2:s.l.s<a.nx) (n1:(es.length:Int)=l1.v ρ) (n2:(new.length:Int)=s.l.v ρ) (d1:∀e,e∈es→D T (h1.v ρ) k1 e) (d2:∀e,e∈new→D T (s.h.v ρ) s.k e)
  (e1:σ.ev oy=some (.sl true sz es)) (e2:σ.ev ox=some x) (hx:nG σ.bx x=some (sz,new)) (hrows:x.rows=wz xa) (h:zje own a sz bytes k1 h1 l1 xa s=some outs):dB T ρ a σ (.app own sz bytes oy ox) outs:=by
 unfold zje at h
 split at h
 ·rename_i k H N a' hk
  obtain ⟨ρ',p1,p2,p3,p4,p5,p6,p7,p8⟩:=Xq hr s1 t1 s2 t2 n1 n2 d1 d2 hk
  split at h
  ·rename_i ho
   subst ho
   split at h
   ·rename_i hne
    cases h
    have c:=aQ hr.F hne
    rw [Lin.k_v hr.zero] at c
    have hemp:new.isEmpty=false:=by
     cases new with
     |nil=>simp at n2;omega
     |cons w r=>rfl
    refine ⟨_,List.mem_singleton.2 rfl,ρ',.bs σ.bx.length 0 (es.length+new.length),σ.bx++[.row sz (es++new)],p1,⟨p2.zero,p2.pos,p2.F,p2.tm,p2.bx.snoc (.row p3 p4 (by rw [List.length_append];exact p5) p6)⟩,?_,fun Γ=>?_⟩
    ·rw [hr.bx.len];exact .bs p2.pos p4 (by rw [Lin.k_v p2.zero];rfl) p5
    ·simp only [au,e1,e2,hx,beq_self_eq_true,Bool.not_true,Bool.false_eq_true,if_false,p7,Bool.and_self,if_true,hemp]
     rw [hr.bx.len,hrows]
   ·cases h
  ·rename_i ho
   have ho:own=false:=by cases own with|true=>exact absurd rfl ho|false=>rfl
   subst ho
   cases h
   refine ⟨_,List.mem_singleton.2 rfl,ρ',.sl false sz (es++new),σ.bx,p1,p2,.sl p3 p4 rfl (by rw [List.length_append];exact p5) p6,fun Γ=>?_⟩
   simp only [au,e1,e2,hx,beq_self_eq_true,Bool.not_true,Bool.false_eq_true,if_false,p7,Bool.and_self,if_true]
   rw [hrows]
 ·cases h
theorem zfx {own:Bool}{a:ASt}{σ:St}(hr:R T ρ a σ){sz bytes:Nat}{oy ox:Opd}{y xa:AX}{u x:X}{outs:List Out}(e1:σ.ev oy=some u)(e2:σ.ev ox=some x)(g1:G T a.nx ρ y u)(g2:G T a.nx ρ xa x)(h:zlS own a sz bytes y xa=some outs):dB T ρ a σ (.app own sz bytes oy ox) outs:=by
 unfold zlS at h
 split at h
 ·cases h
 ·rename_i s hs
  obtain ⟨new,w1,w2,w3,w4,w5,w6⟩:=zb8 hr g2 hs
  split at h
  ·rename_i hsz
   have hsz:=Nat.eq_of_beq_eq_true hsz
   rw [hsz] at w1
   split at h
   ·rename_i sz0 k1 h1 l1
    split at h
    ·rename_i hz
     have hz:=Nat.eq_of_beq_eq_true hz
     subst hz
     cases g1 with
     |sl q1 q2 q3 q4 q5=>
      rename_i tt es
      cases q3
      split at h
      ·rename_i hc
       cases h
       simp only [Bool.and_eq_true] at hc
       obtain ⟨⟨ho,c1⟩,c2⟩:=hc
       subst ho
       have c:=aQ hr.F c1
       rw [Lin.k_v hr.zero] at c
       have:new=[]:=List.eq_nil_of_length_eq_zero (by omega)
       subst this
       have hroom:=xX hr.zero hr.F c2 (m:=es.length) q4
       refine .one hr (.sl q1 q2 rfl q4 q5) (fun Γ=>?_)
       simp only [au,e1,e2,w1,beq_self_eq_true,Bool.not_true,Bool.false_eq_true,if_false,List.length_nil,Nat.add_zero,hroom,Bool.and_self,if_true,List.isEmpty_nil]
       rw [w6]
      ·exact Xp hr q1 q2 w2 w3 q4 w4 q5 w5 e1 e2 w1 w6 h
    ·cases h
   ·rename_i sz0
    split at h
    ·rename_i hz
     have hz:=Nat.eq_of_beq_eq_true hz
     subst hz
     cases g1
     split at h
     ·rename_i hc
      cases h
      simp only [Bool.and_eq_true] at hc
      obtain ⟨⟨ho,c1⟩,c2⟩:=hc
      subst ho
      have c:=aQ hr.F c1
      rw [Lin.k_v hr.zero] at c
      have:new=[]:=List.eq_nil_of_length_eq_zero (by omega)
      subst this
      have hroom:=xX hr.zero hr.F c2 (m:=0) (by rw [Lin.k_v hr.zero];rfl)
      refine .one hr (.x rfl) (fun Γ=>?_)
      simp only [au,e1,e2,w1,beq_self_eq_true,Bool.not_true,Bool.false_eq_true,if_false,List.length_nil,Nat.add_zero,hroom,Bool.and_self,if_true,List.isEmpty_nil]
      rw [w6]
     ·exact Xp hr hr.pos hr.pos w2 w3 (by rw [Lin.k_v hr.zero];rfl) w4 (fun e he=>by cases he) w5 e1 e2 w1 w6 h
    ·cases h
   ·rename_i i o l
    split at h
    ·rename_i sz0 k1 h1 rl e hb ha
     split at h
     ·rename_i hc
      simp only [Bool.and_eq_true] at hc
      obtain ⟨⟨c1,c2⟩,c3⟩:=hc
      have c1:=Nat.eq_of_beq_eq_true c1
      subst c1
      have c2:=I8 hr.F c2
      rw [nR hr.zero ha] at c2
      split at h
      ·rename_i k H N a' hk
       cases h
       cases g1 with
       |bs q1 q2 q3 q4=>
        rename_i off ln
        obtain ⟨b,hb',hgb⟩:=hr.bx.get hb
        cases hgb with
        |row r1 r2 r3 r4=>
         rename_i es
         have hln:(es.drop off).length=ln:=by rw [List.length_drop];omega
         obtain ⟨ρ',p1,p2,p3,p4,p5,p6,p7,p8⟩:=Xq hr (e1:=es.drop off) (e2:=new) r1 q2 w2 w3 (by rw [hln];exact q4) w4 (fun e he=>r4 e (List.mem_of_mem_drop he)) w5 hk
         rw [hln] at p5 p7
         have hoff:(off+ln==es.length)=true:=by rw [beq_iff_eq];omega
         have hmem:(!ou i x.rows)=true:=by rw [w6];exact c3
         refine ⟨_,List.mem_singleton.2 rfl,ρ',.bs σ.bx.length 0 (ln+new.length),σ.bx.set i .dead++[.row sz0 (es.drop off++new)],p1,⟨p2.zero,p2.pos,p2.F,p2.tm,(p2.bx.set i .dead).snoc (.row p3 p4 (by rw [List.length_append,hln];exact p5) p6)⟩,?_,fun Γ=>?_⟩
         ·rw [hr.bx.len];exact .bs p2.pos p4 (by rw [Lin.k_v p2.zero];rfl) p5
         ·simp only [au,e1,e2,w1,beq_self_eq_true,Bool.not_true,Bool.false_eq_true,if_false,hb',hoff,p7,hmem,Bool.and_self,if_true]
          rw [hr.bx.len,w6]
      ·cases h
     ·cases h
    ·cases h
   ·cases h
  ·cases h
end Go.Ab
namespace Go.Ab
open Go.Em
variable {T:Tab} {n:Nat} {ρ:Rho}
def OY:AX→Option Value
 |.i k l=>if Nat.beq l.s 0 then some (.int k l.c) else none
 |.x (.v (.string s))=>some (.string s)
 |_=>none
theorem Jc (h0:ρ 0=0){y:AX}{x:X}{v:Value}(hg:G T n ρ y x)(h:OY y=some v):x=.v v:=by
 unfold OY at h
 split at h
 ·split at h
  ·rename_i k l hs
   cases h
   cases hg with
   |i h1 h2=>
    subst h2
    unfold Lin.v
    rw [Nat.eq_of_beq_eq_true hs,h0];simp
  ·cases h
 ·cases h;cases hg;rfl
 ·cases h
def Wx (k:Value):List (Value×AX)→Nat→Option (Option (Nat×AX))
 |[],_=>some none
 |e::r,i=>match oZ k e.1 with
  |some true=>some (some (i,e.2))
  |some false=>Wx k r (i+1)
  |none=>none
theorem uh {k:Value}:∀{l:List (Value×AX)} {m:List (Value×X)} {i:Nat} {r:Option (Nat×AX)},GM T n ρ l m→Wx k l i=some r→(r=none∧jl k m i=some none)∨∃j y x,r=some (j,y)∧jl k m i=some (some (j,x))∧G T n ρ y x
 |_,_,i,r,.nil,h=>by cases h;exact .inl ⟨rfl,rfl⟩
 |_,_,i,r,.cons (k:=kk) g1 g2,h=>by
  unfold Wx at h
  unfold jl
  dsimp only at h ⊢
  split at h
  ·rename_i e;cases h;rw [e];exact .inr ⟨_,_,_,rfl,rfl,g1⟩
  ·rename_i e;rw [e];exact uh g2 h
  ·cases h
theorem GM.set:∀{l:List (Value×AX)} {m:List (Value×X)} {k:Value} {y:AX} {x:X} (i:Nat),GM T n ρ l m→G T n ρ y x→GM T n ρ (l.set i (k,y)) (m.set i (k,x))
 |_,_,_,_,_,_,.nil,_=>.nil
 |_,_,_,_,_,0,.cons _ h,g=>.cons g h
 |_,_,_,_,_,i+1,.cons h1 h,g=>.cons h1 (h.set i g)
theorem GM.snoc:∀{l:List (Value×AX)} {m:List (Value×X)} {k:Value} {y:AX} {x:X},GM T n ρ l m→G T n ρ y x→GM T n ρ (l++[(k,y)]) (m++[(k,x)])
 |_,_,_,_,_,.nil,g=>.cons g .nil
 |_,_,_,_,_,.cons h1 h,g=>.cons h1 (h.snoc g)
theorem GM.len:∀{l:List (Value×AX)} {m:List (Value×X)},GM T n ρ l m→l.length=m.length
 |_,_,.nil=>rfl
 |_,_,.cons _ h=>by rw [List.length_cons,List.length_cons,h.len]
def zjK (k:Value)(y:AX)(es:List (Value×AX)):Option (List (Value×AX)):=match Wx k es 0 with
 |some none=>some (es++[(k,y)])
 |some (some (i,_))=>some (es.set i (k,y))
 |none=>none
theorem zcH {k:Value}{y:AX}{x:X}{l r:List (Value×AX)}{m:List (Value×X)}(hm:GM T n ρ l m)(hg:G T n ρ y x)(h:zjK k y l=some r):∃w,zq k x m=some w∧GM T n ρ r w:=by
 unfold zjK at h
 split at h
 ·rename_i e
  cases h
  rcases uh hm e with ⟨_,h1⟩|⟨_,_,_,h1,_,_⟩
  ·exact ⟨_,by unfold zq;rw [h1],hm.snoc hg⟩
  ·cases h1
 ·rename_i i y' e
  cases h
  rcases uh hm e with ⟨h1,_⟩|⟨j,_,_,h1,h2,_⟩
  ·cases h1
  ·cases h1
   exact ⟨_,by unfold zq;rw [h2],hm.set _ hg⟩
 ·cases h
def zd8 (ok:Bool)(y:AX)(b:Bool):AX:=if ok then .tup [y,cb b] else y
def Zg (k:IntKind):List (Value×AX)→Bool
 |[]=>true
 |(.int k' _,_)::r=>decide (k'=k)&&Zg k r
 |_=>false
def QL (a:ASt)(ok:Bool)(l:Lin):List (Value×AX)→List Out
 |[]=>[]
 |(.int _ c,y)::r=>outOf (assume a [ak l (.k c),ak (.k c) l]) (zd8 ok y true)++QL a ok l r
 |_::r=>QL a ok l r
def zcZ (a:ASt)(kk:KK)(ok:Bool)(zero:X)(m k:AX):Option (List Out):=match m with
 |.mp i=>match a.bx[i]? with
  |some (.map es)=>if X.bare zero then match OY k with
   |some v=>if qC kk v then match Wx v es 0 with
    |some none=>some [(zd8 ok (ofX zero) false,a,⟨false,[i],[]⟩)]
    |some (some (_,y))=>some [(zd8 ok y true,a,⟨false,[i],[]⟩)]
    |none=>none else none
   |none=>match kk,k with
    |.int kd,.i kd' l=>if kd'=kd&&Zg kd es then some ((QL a ok l es++[(zd8 ok (ofX zero) false,a,fp0)]).map fun o=>(o.1,o.2.1,⟨false,[i],[]⟩)) else none
    |_,_=>none else none
  |_=>none
 |_=>none
theorem EX {ok b:Bool}{y:AX}{x:X}(hg:G T n ρ y x):G T n ρ (zd8 ok y b) (if ok then .tup [x,.v (.bool b)] else x):=by
 unfold zd8
 split
 ·exact .tup (.cons hg (.cons (xM b) .nil))
 ·exact hg
theorem Oe {a:ASt}{σ:St}(hr:R T ρ a σ){ok:Bool}{l:Lin}{kd:IntKind}(hl:l.s<a.nx):∀{es:List (Value×AX)} {m:List (Value×X)} {i:Nat},GM T a.nx ρ es m→Zg kd es=true→
  (jl (.int kd (l.v ρ)) m i=some none)∨∃j x,jl (.int kd (l.v ρ)) m i=some (some (j,x))∧∃o,o∈QL a ok l es∧More a.nx ρ o.2.1.nx ρ∧R T ρ o.2.1 σ∧G T o.2.1.nx ρ o.1 (if ok then .tup [x,.v (.bool true)] else x)
 |_,_,i,.nil,_=>.inl rfl
 |(.int k' c,y)::r,(_,x)::m,i,.cons g1 g2,h=>by
  unfold Zg at h
  rw [Bool.and_eq_true,decide_eq_true_eq] at h
  obtain ⟨rfl,h2⟩:=h
  unfold jl
  have hks:oZ (.int k' (l.v ρ)) (.int k' c)=some (l.v ρ==c):=by simp [oZ]
  rw [hks]
  cases hb:(l.v ρ==c) with
  |true=>
   right
   have he:=eq_of_beq hb
   have hf:aW a.nx ρ [ak l (.k c),ak (.k c) l]:=aW.cons (aC.2 ⟨hl,hr.pos,by rw [Lin.k_v hr.zero];omega⟩) (dQ hr.pos hl (by rw [Lin.k_v hr.zero];omega))
   obtain ⟨a',h3,h4,h5⟩:=ji hr hf
   have hm:More a.nx ρ a'.nx ρ:=⟨by omega,fun _ _=>rfl⟩
   refine ⟨i,x,rfl,(zd8 ok y true,a',fp0),?_,hm,h4,EX (g1.more hm)⟩
   unfold QL
   rw [h3]
   exact List.mem_append_left _ (List.mem_singleton.2 rfl)
  |false=>
   dsimp only
   rcases Oe (ok:=ok) hr hl (i:=i+1) g2 h2 with h3|⟨j,w,h3,o,ho,h4⟩
   ·exact .inl h3
   ·exact .inr ⟨j,w,h3,o,by unfold QL;exact List.mem_append_right _ ho,h4⟩
theorem Y5 {a:ASt}{σ:St}(hr:R T ρ a σ){kk:KK}{ok:Bool}{zero:X}{om okk:Opd}{y z:AX}{m k:X}{outs:List Out}(e1:σ.ev om=some m)(e2:σ.ev okk=some k)(g1:G T a.nx ρ y m)(g2:G T a.nx ρ z k)(h:zcZ a kk ok zero y z=some outs):dB T ρ a σ (.zbh kk ok zero om okk) outs:=by
 unfold zcZ at h
 split at h
 ·rename_i i
  cases g1
  split at h
  ·rename_i es hb
   obtain ⟨b,hb',hgb⟩:=hr.bx.get hb
   cases hgb with
   |map hm=>
    rename_i es'
    split at h
    ·rename_i hz
     have hzero:=Ve (T:=T) hr.zero hr.pos zero hz
     split at h
     ·rename_i v hv
      have:=Jc hr.zero g2 hv
      subst this
      split at h
      ·rename_i hk
       split at h
       ·rename_i e
        cases h
        rcases uh hm e with ⟨_,h1⟩|⟨_,_,_,h1,_,_⟩
        ·exact .one hr (EX hzero) (fun Γ=>by simp only [au,e1,e2,hb',hk,if_true,sW,h1,Option.map_some])
        ·cases h1
       ·rename_i j y' e
        cases h
        rcases uh hm e with ⟨h1,_⟩|⟨_,_,_,h1,h2,h3⟩
        ·cases h1
        ·cases h1
         exact .one hr (EX h3) (fun Γ=>by simp only [au,e1,e2,hb',hk,if_true,sW,h2,Option.map_some])
       ·cases h
      ·cases h
     ·split at h
      ·rename_i kd kd' l _
       split at h
       ·rename_i hc
        cases h
        rw [Bool.and_eq_true,decide_eq_true_eq] at hc
        obtain ⟨rfl,hkeys⟩:=hc
        cases g2 with
        |i q1 q2=>
         subst q2
         have hok:qC (.int kd') (.int kd' (l.v ρ))=true:=by simp [qC]
         rcases Oe (ok:=ok) hr q1 (i:=0) hm hkeys with h1|⟨j,w,h1,o,ho,p1,p2,p3⟩
         ·refine ⟨_,List.mem_map.2 ⟨_,List.mem_append_right _ (List.mem_singleton.2 rfl),rfl⟩,ρ,_,σ.bx,.refl ..,hr,EX hzero,fun Γ=>?_⟩
          simp only [au,e1,e2,hb',hok,if_true,sW,h1,Option.map_some]
         ·refine ⟨_,List.mem_map.2 ⟨o,List.mem_append_left _ ho,rfl⟩,ρ,_,σ.bx,p1,p2,p3,fun Γ=>?_⟩
          simp only [au,e1,e2,hb',hok,if_true,sW,h1,Option.map_some]
       ·cases h
      ·cases h
    ·cases h
  ·cases h
 ·cases h
def opA (T:Tab)(K:Names)(a:ASt)(i:I):Option (List Out):=match i with
 |.Az len zero parts=>MX T K a len zero parts
 |.za8 neg x=>match a.ev x with
  |some y=>zca a neg y
  |none=>none
 |.s2b x=>match a.ev x with
  |some y=>zjB T K a y
  |none=>none
 |.slice sz x lo hi mx=>match a.ev x with
  |some y=>Ui a sz y lo hi mx
  |none=>none
 |.sslice x lo hi=>match a.ev x with
  |some y=>Ug a y lo hi
  |none=>none
 |.iaddr arr sz x j=>match a.ev x,a.ev j with
  |some y,some z=>VI T a arr sz y z
  |_,_=>none
 |.aidx len sz m x j=>match a.ev x,a.ev j with
  |some y,some z=>zfB a len sz m y z
  |_,_=>none
 |.sidx x j=>match a.ev x,a.ev j with
  |some y,some z=>zcd a y z
  |_,_=>none
 |.mksl bytes zero x c=>match a.ev x,a.ev c with
  |some y,some z=>zcY T K a bytes zero y z
  |_,_=>none
 |.app own sz bytes s x=>match a.ev s,a.ev x with
  |some y,some z=>zlS own a sz bytes y z
  |_,_=>none
 |.QJ=>some [(.mp a.bx.length,{a with bx:=a.bx++[.map []]},⟨true,[],[a.bx.length]⟩)]
 |.zbg kk m k v=>match a.ev m,a.ev k,a.ev v with
  |some (.mp i),some k,some y=>match a.bx[i]?,OY k,y.cells with
   |some (.map es),some kv,some _=>if qC kk kv&&y.refs.isEmpty then (zjK kv y es).map fun es'=>[(Np,{a with bx:=a.bx.set i (.map es')},⟨true,[],[i]⟩)] else none
   |_,_,_=>none
  |_,_,_=>none
 |.zbh kk ok zero m k=>match a.ev m,a.ev k with
  |some y,some z=>zcZ a kk ok zero y z
  |_,_=>none
 |.zcX m=>match a.ev m with
  |some (.mp i)=>match a.bx[i]? with
   |some (.map es)=>some [(.i .i64 (.k es.length),a,⟨false,[i],[]⟩)]
   |_=>none
  |_=>none
 |i=>opV T a i
theorem zg8 {K:Names}{a:ASt}{σ:St}{i:I}{outs:List Out}(hr:R T ρ a σ)(h:opA T K a i=some outs):dB T ρ a σ i outs:=by
 unfold opA at h
 split at h
 ·exact RX hr h
 ·split at h
  ·rename_i y e;obtain ⟨x,hx,hg⟩:=bK hr e;exact YA hr hx hg h
  ·cases h
 ·split at h
  ·rename_i y e;obtain ⟨x,hx,hg⟩:=bK hr e;exact zci hr hx hg h
  ·cases h
 ·split at h
  ·rename_i y e;obtain ⟨x,hx,hg⟩:=bK hr e;exact Uh hr hx hg h
  ·cases h
 ·split at h
  ·rename_i y e;obtain ⟨x,hx,hg⟩:=bK hr e;exact Uf hr hx hg h
  ·cases h
 ·split at h
  ·rename_i y z e e';obtain ⟨x,hx,hg⟩:=bK hr e;obtain ⟨x',hx',hg'⟩:=bK hr e';exact VH hr hx hx' hg hg' h
  ·cases h
 ·split at h
  ·rename_i y z e e';obtain ⟨x,hx,hg⟩:=bK hr e;obtain ⟨x',hx',hg'⟩:=bK hr e';exact zaN hr hx hx' hg hg' h
  ·cases h
 ·split at h
  ·rename_i y z e e';obtain ⟨x,hx,hg⟩:=bK hr e;obtain ⟨x',hx',hg'⟩:=bK hr e';exact YC hr hx hx' hg hg' h
  ·cases h
 ·split at h
  ·rename_i y z e e';obtain ⟨x,hx,hg⟩:=bK hr e;obtain ⟨x',hx',hg'⟩:=bK hr e';exact Y4 hr hx hx' hg hg' h
  ·cases h
 ·split at h
  ·rename_i y z e e';obtain ⟨x,hx,hg⟩:=bK hr e;obtain ⟨x',hx',hg'⟩:=bK hr e';exact zfx hr hx hx' hg hg' h
  ·cases h
 ·cases h
  refine ⟨_,List.mem_singleton.2 rfl,ρ,.mp σ.bx.length,σ.bx++[.map []],.refl ..,⟨hr.zero,hr.pos,hr.F,hr.tm,hr.bx.snoc (.map .nil)⟩,?_,fun Γ=>?_⟩
  ·rw [hr.bx.len];exact .mp
  ·simp only [au];rw [hr.bx.len]
 ·rename_i kk m k v
  split at h
  ·rename_i i k' y e1 e2 e3
   obtain ⟨xm,hm,gm⟩:=bK hr e1
   obtain ⟨xk,hk,gk⟩:=bK hr e2
   obtain ⟨xv,hv,gv⟩:=bK hr e3
   cases gm
   split at h
   ·rename_i es kv cs hb hc hcs
    obtain ⟨b,hb',hgb⟩:=hr.bx.get hb
    cases hgb with
    |map hmm=>
     have:=Jc hr.zero gk hc
     subst this
     split at h
     ·rename_i hok
      obtain ⟨es',hp,rfl⟩:=Option.map_eq_some_iff.1 h
      obtain ⟨w,hw,hgw⟩:=zcH hmm gv hp
      rw [Bool.and_eq_true] at hok
      have h1:mM xv=true:=by unfold mM;rw [gv.refs];exact hok.2
      refine ⟨_,List.mem_singleton.2 rfl,ρ,undefX,σ.bx.set i (.map w),.refl ..,⟨hr.zero,hr.pos,hr.F,hr.tm,hr.bx.set i (.map hgw)⟩,.x rfl,fun Γ=>?_⟩
      simp only [au,hm,hk,hv,hb',hok.1,(cells_ok gv hcs).1,h1,Bool.and_self,if_true,hw,Option.map_some]
     ·cases h
   ·cases h
  ·cases h
 ·split at h
  ·rename_i y z e e';obtain ⟨x,hx,hg⟩:=bK hr e;obtain ⟨x',hx',hg'⟩:=bK hr e';exact Y5 hr hx hx' hg hg' h
  ·cases h
 ·split at h
  ·rename_i i e1
   obtain ⟨xm,hm,gm⟩:=bK hr e1
   cases gm
   split at h
   ·rename_i es hb
    cases h
    obtain ⟨b,hb',hgb⟩:=hr.bx.get hb
    cases hgb with
    |map hmm=>exact .one hr (.i hr.pos (by rw [Lin.k_v hr.zero,hmm.len])) (fun Γ=>by simp only [au,hm,hb'])
   ·cases h
  ·cases h
 ·exact zg5 hr h
end Go.Ab
namespace Go.Ab
open Go.Em
variable {T:Tab} {n m:Nat} {ρ ρ':Rho}
abbrev Sub:=Nat→Lin
def Lin.sub (θ:Sub)(l:Lin):Lin:=(θ l.s).up l.c
def Fact.sub (θ:Sub)(f:Fact):Fact:=ak (θ f.x) ((θ f.y).up f.c)
def BD (m:Nat)(ρ:Rho)(n:Nat)(ρ':Rho)(θ:Sub):Prop:=∀s,s<m→(θ s).s<n∧(θ s).v ρ'=ρ s
theorem Lin.jA {θ:Sub}{l:Lin}(h:BD m ρ n ρ' θ)(hl:l.s<m):(l.sub θ).s<n∧(l.sub θ).v ρ'=l.v ρ:=by
 obtain ⟨h1,h2⟩:=h l.s hl
 exact ⟨h1,by unfold Lin.sub;rw [Lin.kZ,h2];rfl⟩
theorem Fact.zgm {θ:Sub}{f:Fact}(h:BD m ρ n ρ' θ)(hf:f.ok m ρ):(f.sub θ).ok n ρ':=by
 obtain ⟨h1,h2,h3⟩:=hf
 obtain ⟨a1,a2⟩:=h _ h1
 obtain ⟨b1,b2⟩:=h _ h2
 exact aC.2 ⟨a1,b1,by rw [Lin.kZ,a2,b2];exact h3⟩
theorem aW.sub {θ:Sub}{F:List Fact}(h:BD m ρ n ρ' θ)(hf:aW m ρ F):aW n ρ' (F.map (Fact.sub θ)):=fun f hm=>by
 obtain ⟨g,hg,rfl⟩:=List.mem_map.1 hm
 exact Fact.zgm h (hf g hg)
mutual
def AX.sub (θ:Sub):AX→AX
 |.i k l=>.i k (l.sub θ)
 |.b t u=>.b (t.map (Fact.sub θ)) (u.map (Fact.sub θ))
 |.s l=>.s (l.sub θ)
 |.x x=>.x x
 |.sl t sz k h l=>.sl t sz k (h.sub θ) (l.sub θ)
 |.bs i a b=>.bs i (a.sub θ) (b.sub θ)
 |.ptr i a o=>.ptr i (a.sub θ) o
 |.dp cs=>.dp (JD θ cs)
 |.fn f cs=>.fn f (JD θ cs)
 |.agg cs=>.agg (JD θ cs)
 |.tup cs=>.tup (JD θ cs)
 |.yl i=>.yl i
 |.mp i=>.mp i
 |.rE=>.rE
 |.el k h=>.el k (h.sub θ)
 |.de k h=>.de k (h.sub θ)
def JD (θ:Sub):List AX→List AX
 |[]=>[]
 |x::r=>x.sub θ::JD θ r
end
mutual
theorem G.sub {θ:Sub}(h:BD m ρ n ρ' θ):∀{a:AX} {x:X},G T m ρ a x→G T n ρ' (a.sub θ) x
 |_,_,.i h1 h2=>.i (Lin.jA h h1).1 (by rw [(Lin.jA h h1).2];exact h2)
 |_,_,.b h1 h2=>.b (fun e=>(h1 e).sub h) (fun e=>(h2 e).sub h)
 |_,_,.s h1 h2=>.s (Lin.jA h h1).1 (by rw [(Lin.jA h h1).2];exact h2)
 |_,_,.x h1=>.x h1
 |_,_,.sl h1 h2 h3 h4 h5=>.sl (Lin.jA h h1).1 (Lin.jA h h2).1 h3 (by rw [(Lin.jA h h2).2];exact h4) (by rw [(Lin.jA h h1).2];exact h5)
 |_,_,.bs h1 h2 h3 h4=>.bs (Lin.jA h h1).1 (Lin.jA h h2).1 (by rw [(Lin.jA h h1).2];exact h3) (by rw [(Lin.jA h h2).2];exact h4)
 |_,_,.ptr h1 h2=>.ptr (Lin.jA h h1).1 (by rw [(Lin.jA h h1).2];exact h2)
 |_,_,.dp h1=>.dp (GL.sub h h1)
 |_,_,.fn h1=>.fn (GL.sub h h1)
 |_,_,.agg h1=>.agg (GL.sub h h1)
 |_,_,.tup h1=>.tup (GL.sub h h1)
 |_,_,.yl=>.yl
 |_,_,.mp=>.mp
 |_,_,.ifc=>.ifc
 |_,_,.CX=>.CX
 |_,_,.el h1 h2=>.el (Lin.jA h h1).1 (by rw [(Lin.jA h h1).2];exact h2)
 |_,_,.de h1 h2=>.de (Lin.jA h h1).1 (by rw [(Lin.jA h h1).2];exact h2)
theorem GL.sub {θ:Sub}(h:BD m ρ n ρ' θ):∀{a:List AX} {x:List X},GL T m ρ a x→GL T n ρ' (JD θ a) x
 |_,_,.nil=>.nil
 |_,_,.cons h1 h2=>.cons (G.sub h h1) (GL.sub h h2)
end
def ABx.sub (θ:Sub):ABx→ABx
 |.var cs=>.var (JD θ cs)
 |.row s k h l=>.row s k (h.sub θ) (l.sub θ)
 |.loop st p tm ps a b=>.loop st p (tm.map fun q=>(q.1,q.2.sub θ)) ps a b
 |.map es=>.map (es.map fun q=>(q.1,q.2.sub θ))
 |.dead=>.dead
 |.el k h=>.el k (h.sub θ)
theorem GT.sub {θ:Sub}(h:BD m ρ n ρ' θ):∀{a:List (Nat×AX)} {x:List (Nat×X)},GT T m ρ a x→GT T n ρ' (a.map fun q=>(q.1,q.2.sub θ)) x
 |_,_,.nil=>.nil
 |_,_,.cons h1 h2=>.cons (h1.sub h) (h2.sub h)
theorem GM.sub {θ:Sub}(h:BD m ρ n ρ' θ):∀{a:List (Value×AX)} {x:List (Value×X)},GM T m ρ a x→GM T n ρ' (a.map fun q=>(q.1,q.2.sub θ)) x
 |_,_,.nil=>.nil
 |_,_,.cons h1 h2=>.cons (h1.sub h) (h2.sub h)
theorem GB.sub {θ:Sub}(h:BD m ρ n ρ' θ):∀{a:ABx} {x:Bx},GB T m ρ a x→GB T n ρ' (a.sub θ) x
 |_,_,.var h1=>.var (h1.sub h)
 |_,_,.row h1 h2 h3 h4=>.row (Lin.jA h h1).1 (Lin.jA h h2).1 (by rw [(Lin.jA h h2).2];exact h3) (by rw [(Lin.jA h h1).2];exact h4)
 |_,_,.loop h1=>.loop (h1.sub h)
 |_,_,.map h1=>.map (h1.sub h)
 |_,_,.dead=>.dead
 |_,_,.el h1 h2=>.el (Lin.jA h h1).1 (by rw [(Lin.jA h h1).2];exact h2)
theorem GBs.sub {θ:Sub}(h:BD m ρ n ρ' θ):∀{a:List ABx} {x:List Bx},GBs T m ρ a x→GBs T n ρ' (a.map (ABx.sub θ)) x
 |_,_,.nil=>.nil
 |_,_,.cons h1 h2=>.cons (h1.sub h) (h2.sub h)
structure In where
 F:List Fact
 θ:Sub
 m:Nat
def lEq (c:In)(l p:Lin):Bool:=Nat.blt p.s c.m&&eqL c.F l (p.sub c.θ)
def lLe (c:In)(l p:Lin):Bool:=Nat.blt p.s c.m&&leL c.F l (p.sub c.θ)
def OL (t p:Option Bool):Bool:=match p with
 |none=>true
 |some b=>match t with
  |some c=>c==b
  |none=>false
def xEq:X→X→Bool
 |.v .nilFunc,.v .nilFunc=>true
 |.v .nilIface,.v .nilIface=>true
 |.v (.pointer none),.v (.pointer none)=>true
 |.v (.map none),.v (.map none)=>true
 |.v (.tuple ⟨[]⟩),.v (.tuple ⟨[]⟩)=>true
 |.ifc,.ifc=>true
 |.sl t s [],.sl t' s' []=>(t==t')&&Nat.beq s s'
 |.v (.string a),.v (.string b)=>decide (a=b)
 |_,_=>false
theorem Tn {x y:X}(h:xEq x y=true):x=y:=by
 unfold xEq at h
 split at h<;>first
  |rfl
  |(rw [Bool.and_eq_true] at h;rw [eq_of_beq h.1,Nat.eq_of_beq_eq_true h.2])
  |(rw [of_decide_eq_true h])
  |cases h
mutual
def leX (c:In):AX→AX→Bool
 |.i k l,.i k' p=>decide (k=k')&&lEq c l p
 |.b _ _,.b [] []=>true
 |.b _ u,.b [] [g]=>(g==bot)&&u.any (fun f=>f==bot)
 |.b t u,.b [g] []=>(g==bot)&&!u.any (fun f=>f==bot)&&t.any (fun f=>f==bot)
 |.s l,.s p=>lEq c l p
 |.x (.v (.string bs)),.s p=>lEq c (.k bs.size) p
 |.sl t sz k h l,.sl t' sz' k' h' l'=>OL t t'&&Nat.beq sz sz'&&Nat.blt h'.s c.m&&lEq c l l'&&(leL c.F l (.k 0)||(Nat.beq k k'&&lLe c h h'))
 |.x (.sl t sz []),.sl t' sz' _ h' l'=>OL (some t) t'&&Nat.beq sz sz'&&Nat.blt h'.s c.m&&lEq c (.k 0) l'
 |.x x,.x y=>xEq x y
 |.x x,.rE=>xEq x .ifc||xEq x (.v .nilIface)
 |.bs i o l,.bs i' o' l'=>Nat.beq i i'&&lEq c o o'&&lEq c l l'
 |.ptr i e o,.ptr i' e' o'=>Nat.beq i i'&&lEq c e e'&&Nat.beq o o'
 |.dp cs,.dp ps=>Ze c cs ps
 |.fn f cs,.fn g ps=>Nat.beq f g&&Ze c cs ps
 |.agg cs,.agg ps=>Ze c cs ps
 |.tup cs,.tup ps=>Ze c cs ps
 |.yl i,.yl j=>Nat.beq i j
 |.mp i,.mp j=>Nat.beq i j
 |.rE,.rE=>true
 |.el k h,.el k' h'=>Nat.beq k k'&&lLe c h h'
 |_,_=>false
def Ze (c:In):List AX→List AX→Bool
 |[],[]=>true
 |a::l,b::r=>leX c a b&&Ze c l r
 |_,_=>false
end
def back (θ:Sub)(ρ:Rho):Rho:=fun s=>(θ s).v ρ
theorem nD (θ:Sub)(ρ:Rho)(l:Lin):(l.sub θ).v ρ=l.v (back θ ρ):=by unfold Lin.sub back;rw [Lin.kZ];rfl
theorem tJ {c:In}(hF:aW n ρ c.F){l p:Lin}(h:lEq c l p=true):p.s<c.m∧l.v ρ=p.v (back c.θ ρ):=by
 unfold lEq at h
 rw [Bool.and_eq_true] at h
 exact ⟨eF h.1,by rw [←nD];exact I8 hF h.2⟩
theorem Ol {c:In}(hF:aW n ρ c.F){l p:Lin}(h:lLe c l p=true):p.s<c.m∧l.v ρ≤p.v (back c.θ ρ):=by
 unfold lLe at h
 rw [Bool.and_eq_true] at h
 exact ⟨eF h.1,by rw [←nD];exact aQ hF h.2⟩
theorem IX {t p:Option Bool}{b:Bool}(h:OL t p=true)(hf:zX t b):zX p b:=by
 unfold OL at h
 split at h
 ·trivial
 ·split at h
  ·rename_i b' c;have:=eq_of_beq h;subst this;exact hf
  ·cases h
theorem Xr {n:Nat}{ρ:Rho}{fs:List Fact}(hb:fs.any (fun f=>f==bot)=true):¬aW n ρ fs:=fun hf=>by
 obtain ⟨f,h1,h2⟩:=List.any_eq_true.1 hb
 have:=eq_of_beq h2
 subst this
 exact Pg (fun g hg=>by rw [List.mem_singleton.1 hg];exact hf _ h1)
mutual
theorem Oi {c:In}(h0:ρ 0=0)(hF:aW n ρ c.F):∀{a p:AX} {x:X},leX c a p=true→G T n ρ a x→G T c.m (back c.θ ρ) p x:=by
 intro a p x h hg
 unfold leX at h
 split at h
 ·rw [Bool.and_eq_true,decide_eq_true_eq] at h
  obtain ⟨rfl,h2⟩:=h
  obtain ⟨h3,h4⟩:=tJ hF h2
  cases hg with
  |i q1 q2=>exact .i h3 (by rw [←h4];exact q2)
 ·cases hg;exact .b (fun _=>.nil) (fun _=>.nil)
 ·rw [Bool.and_eq_true] at h
  cases hg with
  |b q1 q2=>
   rename_i t
   cases t with
   |true=>exact .b (fun _=>.nil) (fun e=>by cases e)
   |false=>exact absurd (q2 rfl) (Xr h.2)
 ·simp only [Bool.and_eq_true] at h
  cases hg with
  |b q1 q2=>
   rename_i t
   cases t with
   |false=>exact .b (fun e=>by cases e) (fun _=>.nil)
   |true=>exact absurd (q1 rfl) (Xr h.2)
 ·obtain ⟨h3,h4⟩:=tJ hF h
  cases hg with
  |s q1 q2=>exact .s h3 (by rw [←h4];exact q2)
 ·obtain ⟨h3,h4⟩:=tJ hF h
  cases hg
  exact .s h3 (by rw [←h4,Lin.k_v h0])
 ·simp only [Bool.and_eq_true,Bool.or_eq_true] at h
  obtain ⟨⟨⟨⟨e1,e2⟩,e3⟩,e4⟩,e5⟩:=h
  have e2:=Nat.eq_of_beq_eq_true e2
  subst e2
  obtain ⟨h3,h4⟩:=tJ hF e4
  cases hg with
  |sl q1 q2 q3 q4 q5=>
   refine .sl (eF e3) h3 (IX e1 q3) (by rw [←h4];exact q4) fun e he=>?_
   rcases e5 with e5|⟨e5,e6⟩
   ·have:=aQ hF e5
    rw [Lin.k_v h0] at this
    have:=List.length_pos_of_mem he
    omega
   ·rw [←Nat.eq_of_beq_eq_true e5]
    exact kQ (Ol hF e6).2 (q5 e he)
 ·simp only [Bool.and_eq_true] at h
  obtain ⟨⟨⟨e1,e2⟩,e3⟩,e4⟩:=h
  have e2:=Nat.eq_of_beq_eq_true e2
  subst e2
  obtain ⟨h3,h4⟩:=tJ hF e4
  cases hg
  exact .sl (eF e3) h3 (IX e1 rfl) (by rw [←h4,Lin.k_v h0];rfl) (fun e he=>by cases he)
 ·rw [←Tn h]
  cases hg with
  |x q=>exact .x q
 ·rw [Bool.or_eq_true] at h
  cases hg
  rcases h with h|h
  ·rw [Tn h];exact .ifc
  ·rw [Tn h];exact .CX
 ·simp only [Bool.and_eq_true] at h
  obtain ⟨⟨e1,e2⟩,e3⟩:=h
  have e1:=Nat.eq_of_beq_eq_true e1
  subst e1
  obtain ⟨a1,a2⟩:=tJ hF e2
  obtain ⟨b1,b2⟩:=tJ hF e3
  cases hg with
  |bs q1 q2 q3 q4=>exact .bs a1 b1 (by rw [←a2];exact q3) (by rw [←b2];exact q4)
 ·simp only [Bool.and_eq_true] at h
  obtain ⟨⟨e1,e2⟩,e3⟩:=h
  have e1:=Nat.eq_of_beq_eq_true e1
  have e3:=Nat.eq_of_beq_eq_true e3
  subst e1;subst e3
  obtain ⟨a1,a2⟩:=tJ hF e2
  cases hg with
  |ptr q1 q2=>exact .ptr a1 (by rw [←a2];exact q2)
 ·cases hg with|dp q=>exact .dp (qW h0 hF h q)
 ·rw [Bool.and_eq_true] at h
  have e1:=Nat.eq_of_beq_eq_true h.1
  subst e1
  cases hg with|fn q=>exact .fn (qW h0 hF h.2 q)
 ·cases hg with|agg q=>exact .agg (qW h0 hF h q)
 ·cases hg with|tup q=>exact .tup (qW h0 hF h q)
 ·have e1:=Nat.eq_of_beq_eq_true h
  subst e1;cases hg;exact .yl
 ·have e1:=Nat.eq_of_beq_eq_true h
  subst e1;cases hg;exact .mp
 ·cases hg
  ·exact .ifc
  ·exact .CX
 ·rw [Bool.and_eq_true] at h
  have e1:=Nat.eq_of_beq_eq_true h.1
  subst e1
  have e2:=Ol hF h.2
  cases hg with|el q1 q2=>exact .el e2.1 (kQ e2.2 q2)
 ·cases h
theorem qW {c:In}(h0:ρ 0=0)(hF:aW n ρ c.F):∀{a p:List AX} {x:List X},Ze c a p=true→GL T n ρ a x→GL T c.m (back c.θ ρ) p x
 |[],[],_,_,.nil=>.nil
 |a::l,b::r,_,h,.cons h1 h2=>by
  unfold Ze at h
  rw [Bool.and_eq_true] at h
  exact .cons (Oi h0 hF h.1 h1) (qW h0 hF h.2 h2)
end
end Go.Ab
