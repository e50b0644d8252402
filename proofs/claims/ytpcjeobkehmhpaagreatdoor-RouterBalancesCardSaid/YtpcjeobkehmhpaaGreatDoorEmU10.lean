/-.-/
import Derived.Test.YtpcjeobkehmhpaaGreatDoorEmU9
set_option linter.unusedSimpArgs false
set_option linter.unusedVariables false
namespace Go.Ab
open Go.Em
variable {a y:AX}{x:X}
variable {T:Tab} {n:Nat} {ρ:Rho}
def AX.zk3:AX->List Nat
 |.ptr j _ _=>[j]
 |_=>[]
theorem TW (h:G T n ρ a x):jX x=a.zk3:=by
 cases h with
 |x hr=>
  cases x<;>first
   |rfl
   |grind[X.refs]
 |_=>rfl
def known:AX->Option Bool
 |.b tf ff=>if ff.any (fun f=>f==bot) then some true else if tf.any (fun f=>f==bot) then some false else none
 |_=>none
theorem TV (h:aX n ρ [bot]):False:=by
 have:=(h bot (qaa.2 rfl)).2.2
 grind[bot]
theorem SL {b t:Bool}(hg:G T n ρ a (.v (.bool t)))(h:known a=some b):t=b:=by
 have key:∀{fs:List Fact},fs.any (fun f=>f==bot)=true->¬aX n ρ fs:=fun {fs} hb hf=>by obtain ⟨f,h1,h2⟩:=List.any_eq_true.1 hb;have:=eq_of_beq h2;subst this;exact TV (fun g hg=>by rw [qaa.1 hg];exact hf _ h1)
 unfold known at h;split at h
 ·cases hg with
  |b h1 h2=>grind
 grind
def zlI:AX->Option AX
 |.b tf ff=>some (.b ff tf)
 |_=>none
theorem Zk (hg:G T n ρ a x)(h:zlI a=some y):∃b,x=.v (.bool b)/\G T n ρ y (.v (.bool !b)):=by
 unfold zlI at h;split at h
 ·cases h;cases hg with
  |b h1 h2=>exact ⟨_,rfl,.b (fun e=>h2 (by grind)) (fun e=>h1 (by grind))⟩
 grind
def isBool:AX->Bool
 |.b _ _=>true
 |_=>false
theorem wG (hg:G T n ρ a x)(h:isBool a=true):∃b,x=.v (.bool b):=by
 unfold isBool at h;split at h;·cases hg<;>simp_all
 grind
def zrQ (neg:Bool)(x y:AX):Option AX:=
 if isBool x&&isBool y then
  match known y with
  |some c=>if c==!neg then some x else zlI x
  |none=>match known x with
   |some c=>if c==!neg then some y else zlI y
   |none=>some (.b [] [])
 else none
theorem zk0 {neg:Bool}{x z:AX}{p q:X}(h1:G T n ρ x p)(h2:G T n ρ y q)(h:zrQ neg x y=some z):∃b c,p=.v (.bool b)/\q=.v (.bool c)/\G T n ρ z (.v (.bool (if neg then !(b==c) else b==c))):=by
 unfold zrQ at h;split at h
 ·rename_i hb;rw [qab] at hb;obtain ⟨b,rfl⟩:=wG h1 hb.1;obtain ⟨c,rfl⟩:=wG h2 hb.2;refine ⟨b,c,rfl,rfl,?_⟩;have key:∀{w u:AX} {d e:Bool},G T n ρ w (.v (.bool d))->(if e==!neg then some w else zlI w)=some u->G T n ρ u (.v (.bool (if neg then !(d==e) else d==e))):=fun {w u d e} hw hu=>by
   split at hu;·simp_all
   rename_i he;obtain ⟨b',hb',hg⟩:=Zk hw hu<;>simp_all
  split at h;next e hk=>have:=SL h2 hk;subst this;exact key h1 h
  split at h;next e hk=>have:=SL h1 hk;subst this;have:=key h2 h<;>grind
  cases h;exact .b (fun _=>.nil) (fun _=>.nil)
 grind
def BJ (a:ASt):List (Nat×Nat×Opd)->Option (List (Nat×Nat×AX))
 |[]=>some []
 |(p,q,o)::r=>match a.ev o with
  |none=>none
  |some x=>(BJ a r).map ((p,q,x)::·)
inductive G3 (T:Tab) (n:Nat) (ρ:Rho):List (Nat×Nat×AX)->List (Nat×Nat×X)->Prop where
 |nil:G3 T n ρ [] []
 |cons {p q:Nat} {a:AX} {x:X} {l:List (Nat×Nat×AX)} {m:List (Nat×Nat×X)}:G T n ρ a x->G3 T n ρ l m->G3 T n ρ ((p,q,a)::l) ((p,q,x)::m)
theorem FZ {a:ASt}{σ:St}(h:R T ρ a σ):∀{l:List (Nat×Nat×Opd)} {ys:List (Nat×Nat×AX)},BJ a l=some ys->∃xs,kG σ l=some xs/\G3 T a.nx ρ ys xs
 |[],ys,e=>by simp only [BJ,qag] at e;subst e;exact ⟨[],rfl,.nil⟩
 |(p,q,o)::r,ys,e=>by
  unfold BJ at e;split at e;·cases e
  rename_i y hy;obtain ⟨ys',h1,rfl⟩:=qac.1 e;obtain ⟨x,hx,hg⟩:=cO h hy;obtain ⟨xs,hxs,hgs⟩:=FZ h h1;exact ⟨(p,q,x)::xs,by grind[kG],.cons hg hgs⟩
def zaT (zero:List AX):List (Nat×Nat×AX)->Option (List AX)
 |[]=>some zero
 |(off,size,x)::r=>match x.cells with
  |none=>none
  |some cs=>if cs.length==size then match AQ zero off cs with
   |none=>none
   |some z=>zaT z r else none
theorem Tz:∀{ps:List (Nat×Nat×AX)} {qs:List (Nat×Nat×X)} {z r:List AX} {zx:List X},GL T n ρ z zx->G3 T n ρ ps qs->zaT z ps=some r->∃rx,EK zx qs=some rx/\GL T n ρ r rx
 |[],_,z,r,zx,hz,.nil,e=>by simp only [zaT,qag] at e;subst e;exact ⟨zx,rfl,hz⟩
 |(off,size,x)::ps,_,z,r,zx,hz,.cons h1 h2,e=>by
  unfold zaT at e;split at e;·cases e
  rename_i cs hc;obtain ⟨k1,k2⟩:=cells_ok h1 hc;split at e
  ·rename_i hl;split at e;·cases e
   rename_i z' hs;obtain ⟨xr,hx,hg⟩:=wY hz k2 hs;obtain ⟨rx,h3,h4⟩:=Tz hg h2 e;refine ⟨rx,?_,h4⟩;unfold EK;rw [k1,<-k2.len,Bool.true_and,if_pos hl,hx]<;>simp_all
  grind
def zp2:AX->Option Lin
 |.sl _ _ _ _ l=>some l
 |.x (.sl _ _ es)=>some (.k es.length)
 |.bs _ _ l=>some l
 |_=>none
def zrI (a:ASt)(k:IntKind)(l:Lin):Out:=(inI a k l).getD (anyI a k)
def qc {α:Type}:List (Option α)->Option (List α)
 |[]=>some []
 |none::_=>none
 |some x::r=>(qc r).map (x::·)
theorem gZ {α β:Type}{f:α->Option β}:∀{l:List α} {m:List β} {x:α},qc (l.map f)=some m->x∈l->∃y,f x=some y/\y∈m
 |z::l,m,x,e,hx=>by
  rw [qaT] at e;cases hz:f z with
  |none=>rw [hz] at e;cases e
  |some y=>
   rw [hz] at e;obtain ⟨m',hm,rfl⟩:=qac.1 e;rcases qaj.1 hx with rfl|hx
   ·grind
   obtain ⟨w,h1,h2⟩:=gZ hm hx<;>grind
def Rn:AX:=.x iY
def zlU:List Nat->List AX->List AX->Bool
 |[],[],[]=>true
 |0::ks,.i k _::xs,.i k' _::ys=>decide (k=k')&&zlU ks xs ys
 |1::ks,x::xs,y::ys=>(XT x).isSome&&(XT y).isSome&&zlU ks xs ys
 |2::ks,x::xs,y::ys=>isBool x&&isBool y&&zlU ks xs ys
 |_,_,_=>false
theorem zkq (h0:ρ 0=0)(hn:0<n):∀{ks:List Nat} {xs ys:List AX} {lx ly:List X},zlU ks xs ys=true->GL T n ρ xs lx->GL T n ρ ys ly->(uN ks lx ly).isSome=true:=by
 intro ks;induction ks with
 |nil=>
  intro xs ys lx ly h h1 h2
  match xs,ys,h with
  |[],[],_=>cases h1;cases h2;rfl
 |cons k ks ih=>
  intro xs ys lx ly h h1 h2;unfold zlU at h;split at h
  ·grind
  ·rename_i e;cases e;rw [qab] at h;cases h1 with
   |cons a1 t1=>cases h2 with
    |cons a2 t2=>
     cases a1 with
     |i _ _=>cases a2 with
      |i _ _=>
       have hk:=of_decide_eq_true h.1;subst hk;simp only [uN,if_true,Option.isSome_map]
       grind
  ·rename_i e;cases e;simp only [qab] at h;obtain ⟨⟨s1,s2⟩,h⟩:=h;cases h1 with
   |cons a1 t1=>cases h2 with
    |cons a2 t2=>
     obtain ⟨l1,e1⟩:=Option.isSome_iff_exists.1 s1;obtain ⟨l2,e2⟩:=Option.isSome_iff_exists.1 s2;obtain ⟨b1,rfl,_⟩:=o7 h0 hn a1 e1;obtain ⟨b2,rfl,_⟩:=o7 h0 hn a2 e2
     grind[uN]
  ·rename_i e;cases e;simp only [qab] at h;obtain ⟨⟨s1,s2⟩,h⟩:=h;cases h1 with
   |cons a1 t1=>cases h2 with
    |cons a2 t2=>
     obtain ⟨b1,rfl⟩:=wG a1 s1;obtain ⟨b2,rfl⟩:=wG a2 s2
     grind[uN]
  grind
def opV (T:Tab)(a:ASt):I->Option (List Out)
 |.mov x=>(a.ev x).map fun y=>[(y,a,fp0)]
 |.pick c x y=>match a.ev c,a.ev x,a.ev y with
  |some c,some x,some y=>zmY a c x y
  |_,_,_=>none
 |.alloc zero=>if EU zero then some [(.ptr a.bx.length (.k 0) 0,{a with bx:=a.bx++[.var (zdq zero)]},⟨true,[],[a.bx.length]⟩)] else none
 |.box x=>match a.ev x with
  |some y=>y.cells.map fun cs=>[(.ptr a.bx.length (.k 0) 0,{a with bx:=a.bx++[.var cs]},⟨true,[],[a.bx.length]⟩)]
  |none=>none
 |.build zero parts=>if EU zero then match BJ a parts with
  |none=>none
  |some ps=>(zaT (zdq zero) ps).map fun cs=>[(.agg cs,a,fp0)] else none
 |.load m p=>match a.ev p with
  |none=>none
  |some p=>match zid T a p with
   |none=>none
   |some outs=>qc (outs.map fun q=>(takeA m q.1).map fun y=>(y,q.2,⟨false,p.zk3,[]⟩))
 |.store m p x=>match a.ev p,a.ev x with
  |some p,some y=>match y.cells with
   |none=>none
   |some cs=>(XZ T a m p cs).map fun a'=>[(Rn,a',⟨true,[],p.zk3⟩)]
  |_,_=>none
 |.bin op x y=>match a.ev x,a.ev y with
  |some x,some y=>zrO a op x y
  |_,_=>none
 |.beq neg x y=>match a.ev x,a.ev y with
  |some x,some y=>(zrQ neg x y).map fun z=>[(z,a,fp0)]
  |_,_=>none
 |.ceq ks _ x y=>match a.ev x,a.ev y with
  |some (.agg xs),some (.agg ys)=>if zlU ks xs ys then some [(.b [] [],a,fp0)] else none
  |_,_=>none
 |.un op x=>match op,a.ev x with
  |.not,some x=>(zlI x).map fun z=>[(z,a,fp0)]
  |.neg,some (.i k l)=>some [zoG a k (.k 0) l]
  |.xor,some (.i k _)=>some [anyI a k]
  |_,_=>none
 |.conv k x=>match a.ev x with
  |some (.i _ l)=>some [zrI a k l]
  |_=>none
 |.idc x=>match a.ev x with
  |some y=>(XT y).map fun _=>[(y,a,fp0)]
  |none=>none
 |.zlJ f caps=>(zkm a caps).map fun cs=>[(.fn f cs,a,fp0)]
 |.V7 off p=>match a.ev p with
  |some (.ptr i e o)=>some [(.ptr i e (o+off),a,fp0)]
  |some (.dp cs)=>some [(.dp (cs.drop off),a,fp0)]
  |_=>none
 |.field m off x=>match a.ev x with
  |some (.agg cs)=>match m with
   |none=>(cs[off]?).map fun y=>[(y,a,fp0)]
   |some m=>if ((cs.drop off).take m).length==m then some [(.agg ((cs.drop off).take m),a,fp0)] else none
  |_=>none
 |.Vp x=>match a.ev x with
  |some (.ptr i e o)=>some [(.ptr i e o,a,fp0)]
  |some (.dp cs)=>some [(.dp cs,a,fp0)]
  |some (.fn f cs)=>some [(.fn f cs,a,fp0)]
  |some (.yl i)=>some [(.yl i,a,fp0)]
  |_=>none
 |.extract x i=>match a.ev x with
  |some (.tup xs)=>(xs[i]?).map fun y=>[(y,a,fp0)]
  |_=>none
 |.len x=>match a.ev x with
  |some y=>(zp2 y).map fun l=>[(.i .i64 l,a,fp0)]
  |none=>none
 |.slen x=>match a.ev x with
  |some y=>(XT y).map fun l=>[(.i .i64 l,a,fp0)]
  |none=>none
 |.mm isMax l=>match zkm a l with
  |some [.i .i64 x,.i .i64 y]=>if isMax then some (outOf (assume a [aj y x]) (.i .i64 x)++outOf (assume a [aj x y]) (.i .i64 y))
    else some (outOf (assume a [aj x y]) (.i .i64 x)++outOf (assume a [aj y x]) (.i .i64 y))
  |_=>none
 |.Vu x=>(a.ev x).map fun _=>[(.x .ifc,a,fp0)]
 |.zit neg x=>match a.ev x with
  |some (.x .ifc)=>some [(cb neg,a,fp0)]
  |some (.x (.v .nilIface))=>some [(cb (!neg),a,fp0)]
  |some .tX=>some [(.b [] [],a,fp0)]
  |_=>none
 |_=>none
theorem zij (h0:ρ 0=0)(hn:0<n){l:Lin}(hg:G T n ρ y x)(h:zp2 y=some l):l.s<n/\((∃t s es,x=.sl t s es/\(es.length:Int)=l.v ρ)\/∃i o m,x=.bs i o m/\(m:Int)=l.v ρ):=by
 unfold zp2 at h;split at h
 ·cases h;cases hg with
  |sl h1 h2 h3 h4 h5=>grind
 ·cases h;cases hg;exact ⟨hn,.inl ⟨_,_,_,rfl,(Lin.k_v h0 _).symm⟩⟩
 ·cases h;cases hg with
  |bs h1 h2 h3 h4=>grind
 grind
theorem zm7 {a:ASt}{σ:St}{i:I}{outs:List Out}(hr:R T ρ a σ)(h:opV T a i=some outs):dR T ρ a σ i outs:=by
 unfold opV at h;split at h;next x=>obtain ⟨y,hy,rfl⟩:=qac.1 h;obtain ⟨p,hp,hg⟩:=cO hr hy;exact .one hr hg (fun Γ=>by simp only [aG,hp,qao];rfl)
 ·rename_i c x y;split at h
  ·rename_i c' x' y' e1 e2 e3;obtain ⟨pc,hc,gc⟩:=cO hr e1;obtain ⟨px,hx,gx⟩:=cO hr e2;obtain ⟨py,hy,gy⟩:=cO hr e3;unfold zmY at h;split at h
   ·cases h;cases gc with
    |b h1 h2=>
     rename_i t;cases t with
     |true=>exact .left (rZ hr (h1 rfl) gx (fun Γ=>by simp only [aG,hc,hx,hy];rfl))
     |false=>exact .right (rZ hr (h2 rfl) gy (fun Γ=>by simp only [aG,hc,hx,hy];rfl))
   grind
  grind
 ·rename_i zero;split at h
  ·rename_i hb;cases h;refine ⟨_,qaa.2 rfl,ρ,.ptr σ.bx.length 0 0,σ.bx++[.var zero],.refl ..,⟨hr.zero,hr.pos,hr.F,hr.tm,hr.bx.snoc (.var (qX hr.zero hr.pos _ hb))⟩,?_,fun Γ=>?_⟩;·rw [hr.bx.len];exact .ptr hr.pos (Lin.k_v hr.zero 0).symm
   dsimp only [aG];rw [hr.bx.len]
  grind
 ·rename_i x;split at h
  ·rename_i y hy;obtain ⟨cs,hc,rfl⟩:=qac.1 h;obtain ⟨p,hp,hg⟩:=cO hr hy;obtain ⟨k1,k2⟩:=cells_ok hg hc;refine ⟨_,qaa.2 rfl,ρ,.ptr σ.bx.length 0 0,σ.bx++[.var p.cells],.refl ..,⟨hr.zero,hr.pos,hr.F,hr.tm,hr.bx.snoc (.var k2)⟩,?_,fun Γ=>?_⟩;·rw [hr.bx.len];exact .ptr hr.pos (Lin.k_v hr.zero 0).symm
   simp only [aG,hp,k1,if_true];rw [hr.bx.len]
  grind
 ·rename_i zero parts;split at h
  ·rename_i hb;split at h;·cases h
   rename_i ps hp;obtain ⟨cs,hc,rfl⟩:=qac.1 h;obtain ⟨xs,h1,h2⟩:=FZ hr hp;obtain ⟨rx,h3,h4⟩:=Tz (qX hr.zero hr.pos _ hb) h2 hc;exact .one hr (.agg h4) (fun Γ=>by simp only [aG,h1,h3,qao];rfl)
  grind
 ·rename_i m p;split at h;·cases h
  rename_i p' hp';obtain ⟨q,hq,hg⟩:=cO hr hp';split at h;·cases h
  rename_i ls hl;obtain ⟨r,hrm,ρ',xs,m1,m2,m3,m4⟩:=zdD hr hg hl;obtain ⟨o,ho,hom⟩:=gZ h hrm;obtain ⟨y,hy,rfl⟩:=qac.1 ho;obtain ⟨x,hx,hgx⟩:=zW m3 hy;refine ⟨_,hom,ρ',x,σ.bx,m1,m2,hgx,fun Γ=>?_⟩<;>grind[oq,aG,TW]
 ·rename_i m p x;split at h
  ·rename_i p' y' e1 e2;obtain ⟨q,hq,hg⟩:=cO hr e1;obtain ⟨z,hz,hgz⟩:=cO hr e2;split at h;·cases h
   rename_i cs hc;obtain ⟨a',ha,rfl⟩:=qac.1 h;obtain ⟨k1,k2⟩:=cells_ok hgz hc;obtain ⟨bx,h1,h2,h3⟩:=XY hr hg k1 k2 ha;exact ⟨_,qaa.2 rfl,ρ,iY,bx,⟨by grind,fun _ _=>rfl⟩,h2,.x rfl,fun Γ=>by grind[aG,TW]⟩
  grind
 ·grind[cO,zkX]
 ·rename_i neg x y;split at h;next x' y' e1 e2=>obtain ⟨p,hp,g1⟩:=cO hr e1;obtain ⟨q,hq,g2⟩:=cO hr e2;obtain ⟨z,hz,rfl⟩:=qac.1 h;obtain ⟨b,c,rfl,rfl,hgz⟩:=zk0 g1 g2 hz;exact .one hr hgz (fun Γ=>by simp only [aG,hp,hq];rfl)
  grind
 ·rename_i ks neg x y;split at h
  ·rename_i xs ys e1 e2;obtain ⟨p,hp,g1⟩:=cO hr e1;obtain ⟨q,hq,g2⟩:=cO hr e2;split at h
   ·rename_i hc;cases h;cases g1 with
    |agg g1=>cases g2 with
     |agg g2=>obtain ⟨b,hb⟩:=Option.isSome_iff_exists.1 (zkq hr.zero hr.pos hc g1 g2);exact .one hr (.b (fun _=>.nil) (fun _=>.nil)) (x:=.v (.bool (if neg then !b else b))) (fun Γ=>by simp only [aG,hp,hq,hb,qao];rfl)
   grind
  grind
 ·rename_i op x;split at h;next x' e1=>obtain ⟨p,hp,g1⟩:=cO hr e1;obtain ⟨z,hz,rfl⟩:=qac.1 h;obtain ⟨b,rfl,hg⟩:=Zk g1 hz;exact .one hr hg (fun Γ=>by simp only [aG,hp,zl8,qao];rfl)
  ·rename_i k l e1;cases h;obtain ⟨p,hp,g1⟩:=cO hr e1;cases g1 with
   |i h1 h2=>subst h2;exact XR hr hr.pos h1 (fun Γ=>by simp only [aG,hp,zl9,qao,Lin.k_v hr.zero];rfl)
  ·rename_i k l e1;cases h;obtain ⟨p,hp,g1⟩:=cO hr e1;cases g1 with
   |i h1 h2=>subst h2;obtain ⟨z,hz⟩:=zl7 k (l.v ρ);exact lS hr (kS k z) (kT k z) (fun Γ=>by simp only [aG,hp,hz,qao];rfl)
  grind
 ·rename_i k x;split at h
  ·rename_i k' l e1;cases h;obtain ⟨p,hp,g1⟩:=cO hr e1;cases g1 with
   |i h1 h2=>subst h2;exact Qo hr h1 rfl (fun Γ=>by simp only [aG,hp];rfl)
  grind
 ·rename_i x;split at h;next y e1=>obtain ⟨p,hp,g1⟩:=cO hr e1;obtain ⟨l,hl,rfl⟩:=qac.1 h;obtain ⟨bs,rfl,h1,h2⟩:=o7 hr.zero hr.pos g1 hl;exact .one hr g1 (fun Γ=>by simp only [aG,hp];rfl)
  grind
 next f caps=>obtain ⟨cs,hc,rfl⟩:=qac.1 h;obtain ⟨xs,hx,hg⟩:=JK hr hc;exact .one hr (.fn hg) (fun Γ=>by simp only [aG,hx,qao];rfl)
 ·rename_i off p;split at h
  ·rename_i j e o e1;cases h;obtain ⟨q,hq,g1⟩:=cO hr e1;cases g1 with
   |ptr h1 h2=>exact .one hr (.ptr h1 h2) (fun Γ=>by simp only [aG,hq];rfl)
  ·rename_i cs e1;cases h;obtain ⟨q,hq,g1⟩:=cO hr e1;cases g1 with
   |dp h1=>exact .one hr (.dp (h1.drop off)) (fun Γ=>by simp only [aG,hq];rfl)
  grind
 ·rename_i m off x;split at h
  ·rename_i cs e1;obtain ⟨q,hq,g1⟩:=cO hr e1;cases g1 with
   |agg h1=>
    split at h;·obtain ⟨y,hy,rfl⟩:=qac.1 h;obtain ⟨z,hz,hg⟩:=h1.get hy;exact .one hr hg (fun Γ=>by simp only [aG,hq,hz,qao];rfl)
    rename_i m;split at h;next hc=>cases h;have h2:=(h1.drop off).take m;rw [h2.len] at hc;exact .one hr (.agg h2) (fun Γ=>by simp only [aG,hq,if_pos hc];rfl)
    grind
  grind
 ·rename_i x;split at h
  ·rename_i j e o e1;cases h;obtain ⟨q,hq,g1⟩:=cO hr e1;cases g1 with
   |ptr h1 h2=>exact .one hr (.ptr h1 h2) (fun Γ=>by simp only [aG,hq];rfl)
  ·rename_i cs e1;cases h;obtain ⟨q,hq,g1⟩:=cO hr e1;cases g1 with
   |dp h1=>exact .one hr (.dp h1) (fun Γ=>by simp only [aG,hq];rfl)
  ·rename_i f cs e1;cases h;obtain ⟨q,hq,g1⟩:=cO hr e1;cases g1 with
   |fn h1=>exact .one hr (.fn h1) (fun Γ=>by simp only [aG,hq];rfl)
  next j e1=>cases h;obtain ⟨q,hq,g1⟩:=cO hr e1;cases g1;exact .one hr .yl (fun Γ=>by simp only [aG,hq];rfl)
  grind
 ·rename_i x j;split at h
  ·rename_i xs e1;obtain ⟨q,hq,g1⟩:=cO hr e1;cases g1 with
   |tup h1=>obtain ⟨y,hy,rfl⟩:=qac.1 h;obtain ⟨z,hz,hg⟩:=h1.get hy;exact .one hr hg (fun Γ=>by simp only [aG,hq,hz,qao];rfl)
  grind
 ·rename_i x;split at h
  ·rename_i y e1;obtain ⟨q,hq,g1⟩:=cO hr e1;obtain ⟨l,hl,rfl⟩:=qac.1 h;obtain ⟨h2,⟨t,s,es,rfl,h3⟩|⟨j,o,m,rfl,h3⟩⟩:=zij hr.zero hr.pos g1 hl;·exact .one hr (.i h2 h3) (fun Γ=>by simp only [aG,hq];rfl)
   exact .one hr (.i h2 h3) (fun Γ=>by simp only [aG,hq];rfl)
  grind
 ·rename_i x;split at h;next y e1=>obtain ⟨q,hq,g1⟩:=cO hr e1;obtain ⟨l,hl,rfl⟩:=qac.1 h;obtain ⟨bs,rfl,h1,h2⟩:=o7 hr.zero hr.pos g1 hl;exact .one hr (.i h2 h1) (fun Γ=>by simp only [aG,hq];rfl)
  grind
 ·rename_i isMax l;split at h
  ·rename_i x y e1;obtain ⟨xs,hx,hg⟩:=JK hr e1;cases hg with
   |cons g1 g2=>
    cases g2 with
    |cons g2 g3=>
     cases g3;cases g1 with
     |i p1 p2=>
      cases g2 with
      |i q1 q2=>
       subst p2;subst q2;split at h
       ·rename_i hm;subst hm;cases h;by_cases hc:y.v ρ>x.v ρ;·exact .right (rZ hr (eY p1 q1 (by omega)) (.i q1 rfl) (fun Γ=>by simp only [aG,hx,mmV,if_true,if_pos hc,qao];rfl))
        exact .left (rZ hr (eY q1 p1 (by omega)) (.i p1 rfl) (fun Γ=>by simp only [aG,hx,mmV,if_true,if_neg hc,qao];rfl))
       rename_i hm;have hm:isMax=false:=by cases isMax with|true=>grind|false=>rfl
       subst hm;cases h;by_cases hc:y.v ρ<x.v ρ;·exact .right (rZ hr (eY q1 p1 (by omega)) (.i q1 rfl) (fun Γ=>by simp only [aG,hx,mmV,qaQ,if_false,if_pos hc,qao];rfl))
       exact .left (rZ hr (eY p1 q1 (by omega)) (.i p1 rfl) (fun Γ=>by simp only [aG,hx,mmV,qaQ,if_false,if_neg hc,qao];rfl))
  grind
 next x=>obtain ⟨y,hy,rfl⟩:=qac.1 h;obtain ⟨p,hp,hg⟩:=cO hr hy;exact .one hr (.x rfl) (fun Γ=>by simp only [aG,hp,qao];rfl)
 ·rename_i neg x;split at h;next e1=>cases h;obtain ⟨q,hq,g1⟩:=cO hr e1;cases g1;exact .one hr (zU neg) (fun Γ=>by simp only [aG,hq];rfl)
  next e1=>cases h;obtain ⟨q,hq,g1⟩:=cO hr e1;cases g1;exact .one hr (zU (!neg)) (fun Γ=>by simp only [aG,hq];rfl)
  ·rename_i e1;cases h;obtain ⟨q,hq,g1⟩:=cO hr e1;cases g1;·exact .one hr (.b (fun _=>.nil) (fun _=>.nil)) (fun Γ=>by simp only [aG,hq];rfl)
   exact .one hr (.b (fun _=>.nil) (fun _=>.nil)) (fun Γ=>by simp only [aG,hq];rfl)
  grind
 grind
end Go.Ab
namespace Go.Ab
open Go.Em
variable {a:ASt}{l x y:Lin}{σ:St}
variable {T:Tab} {n:Nat} {ρ:Rho}
def grow (a:ASt)(Fs:List Fact):ASt:={a with nx:=a.nx+1,F:=Fs++a.F}
theorem Ql {z:Int}{Fs:List Fact}(hr:R T ρ a σ)(hF:aX (a.nx+1) (upd ρ a.nx z) Fs):R T (upd ρ a.nx z) (grow a Fs) σ:=by have h1:=hr.more (gq ρ a.nx z);exact ⟨h1.zero,h1.pos,hF.append h1.F,h1.tm,h1.bx⟩
def zmf (a:ASt)(x y:Lin):Option (Lin×ASt):=
 match Xc x y with
 |some l=>some (l,a)
 |none=>match low a.F x,low a.F y,high a.F x,high a.F y with
  |some lx,some ly,some hx,some hy=>some (⟨a.nx,0⟩,grow a [aj (x.up ly) ⟨a.nx,0⟩,aj (y.up lx) ⟨a.nx,0⟩,aj ⟨a.nx,0⟩ (x.up hy),aj ⟨a.nx,0⟩ (y.up hx)])
  |_,_,_,_=>none
theorem zg2 {a':ASt}(hr:R T ρ a σ)(hx:x.s<a.nx)(hy:y.s<a.nx)(h:zmf a x y=some (l,a')):∃ρ',More a.nx ρ a'.nx ρ'/\R T ρ' a' σ/\l.s<a'.nx/\l.v ρ'=x.v ρ+y.v ρ:=by
 unfold zmf at h;split at h;next l' e=>cases h;exact ⟨ρ,.refl ..,hr,Ec e hx hy,qg hr.zero e⟩
 split at h
 ·rename_i lx ly hx' hy' e1 e2 e3 e4;cases h;have b1:=vX hr.zero hr.F e1;have b2:=vX hr.zero hr.F e2;have b3:=jG hr.zero hr.F e3;have b4:=jG hr.zero hr.F e4;have hm:=gq ρ a.nx (x.v ρ+y.v ρ);refine ⟨upd ρ a.nx (x.v ρ+y.v ρ),hm,Ql hr (aX.cons ?_ (aX.cons ?_ (aX.cons ?_ (aX.cons ?_ .nil)))),qae _,dN⟩;·exact aJ.2 ⟨qaB hx,qae _,by rw [Lin.mQ,dN,hm.lin hx];omega⟩
  ·exact aJ.2 ⟨qaB hy,qae _,by rw [Lin.mQ,dN,hm.lin hy];omega⟩
  ·exact aJ.2 ⟨qae _,qaB hx,by rw [Lin.mQ,dN,hm.lin hx];omega⟩
  exact aJ.2 ⟨qae _,qaB hy,by rw [Lin.mQ,dN,hm.lin hy];omega⟩
 grind
def yE (a:ASt)(x y:Lin):Lin×ASt:=
 match zlz x y with
 |some l=>(l,a)
 |none=>(⟨a.nx,0⟩,grow a (aj (.k 0) ⟨a.nx,0⟩::((match low a.F y with|some ly=>[aj ⟨a.nx,0⟩ (x.up (-ly))]|none=>[])++(match high a.F y with|some hy=>[aj (x.up (-hy)) ⟨a.nx,0⟩]|none=>[]))))
theorem JR (hr:R T ρ a σ)(hx:x.s<a.nx)(hle:y.v ρ<=x.v ρ):∃ρ',More a.nx ρ (yE a x y).2.nx ρ'/\R T ρ' (yE a x y).2 σ/\(yE a x y).1.s<(yE a x y).2.nx/\(yE a x y).1.v ρ'=x.v ρ-y.v ρ/\(yE a x y).2.bx=a.bx:=by
 unfold yE;split;next l e=>exact ⟨ρ,.refl ..,hr,XQ hr.pos e hx,XP hr.zero e,rfl⟩
 have hm:=gq ρ a.nx (x.v ρ-y.v ρ);refine ⟨upd ρ a.nx (x.v ρ-y.v ρ),hm,Ql hr (aX.cons ?_ (aX.append ?_ ?_)),qae _,dN,rfl⟩;·exact aJ.2 ⟨Nat.succ_pos _,qae _,by grind[dN,Lin.k_v,lU]⟩
 ·split;next ly e=>have:=vX hr.zero hr.F e;exact aX.cons (aJ.2 ⟨qae _,qaB hx,by rw [Lin.mQ,dN,hm.lin hx];omega⟩) .nil
  exact .nil
 split;next hy e=>have:=jG hr.zero hr.F e;exact aX.cons (aJ.2 ⟨qaB hx,qae _,by rw [Lin.mQ,dN,hm.lin hx];omega⟩) .nil
 exact .nil
def maxS (a:ASt)(x y:Lin):Lin×ASt:=if leL a.F x y then (y,a) else if leL a.F y x then (x,a) else (⟨a.nx,0⟩,grow a [aj x ⟨a.nx,0⟩,aj y ⟨a.nx,0⟩])
theorem Zq (hr:R T ρ a σ)(hx:x.s<a.nx)(hy:y.s<a.nx):∃ρ',More a.nx ρ (maxS a x y).2.nx ρ'/\R T ρ' (maxS a x y).2 σ/\(maxS a x y).1.s<(maxS a x y).2.nx/\x.v ρ<=(maxS a x y).1.v ρ'/\y.v ρ<=(maxS a x y).1.v ρ'/\(maxS a x y).2.bx=a.bx:=by
 unfold maxS;split;next h=>exact ⟨ρ,.refl ..,hr,hy,aU hr.F h,Int.le_refl _,rfl⟩
 split;next h=>exact ⟨ρ,.refl ..,hr,hx,Int.le_refl _,aU hr.F h,rfl⟩
 have hm:=gq ρ a.nx (max (x.v ρ) (y.v ρ));refine ⟨upd ρ a.nx (max (x.v ρ) (y.v ρ)),hm,Ql hr (aX.cons ?_ (aX.cons ?_ .nil)),qae _,by grind[dN],by grind[dN],rfl⟩;·exact aJ.2 ⟨qaB hx,qae _,by rw [dN,hm.lin hx];omega⟩
 exact aJ.2 ⟨qaB hy,qae _,by rw [dN,hm.lin hy];omega⟩
abbrev Names:=Nat->List Nat
variable {K:Names}
def zqm:List AX->List Lin
 |[]=>[]
 |.sl _ _ _ h _::r=>h.up 1::zqm r
 |_::r=>zqm r
def kindOf (T:Tab)(K:Names)(F:List Fact)(sz:Nat)(rows:List (List AX)):Option (Nat×Lin):=
 (((rows.flatMap zqm++[Lin.k 1,Lin.k 2,Lin.k 3]).flatMap fun H=>(K sz).map fun k=>(k,H)).find? fun q=>rows.all fun cs=>fits T F q.2 q.1 cs)
theorem ML {F:List Fact}{sz k:Nat}{H:Lin}{rows:List (List AX)}(h:kindOf T K F sz rows=some (k,H)):∀cs,cs∈rows->fits T F H k cs=true:=by grind[kindOf]
def BK (a:ASt):List (Nat×Opd)->Option (List (Nat×AX))
 |[]=>some []
 |(p,o)::r=>match a.ev o with
  |none=>none
  |some x=>(BK a r).map ((p,x)::·)
theorem F5 {a:ASt}{σ:St}(h:R T ρ a σ):∀{l:List (Nat×Opd)} {ys:List (Nat×AX)},BK a l=some ys->∃xs,lg σ l=some xs/\GT T a.nx ρ ys xs
 |[],ys,e=>by simp only [BK,qag] at e;subst e;exact ⟨[],rfl,.nil⟩
 |(p,o)::r,ys,e=>by
  unfold BK at e;split at e;·cases e
  rename_i y hy;obtain ⟨ys',h1,rfl⟩:=qac.1 e;obtain ⟨x,hx,hg⟩:=cO h hy;obtain ⟨xs,hxs,hgs⟩:=F5 h h1;exact ⟨(p,x)::xs,by grind[lg],.cons hg hgs⟩
def wU (sz:Nat):Nat->List (Nat×AX)->Option (List (List AX))
 |_,[]=>some []
 |k,(i,x)::r=>match x.cells with
  |some cs=>if i==k&&cs.length==sz&&(qx cs).isEmpty then (wU sz (k+1) r).map (cs::·) else none
  |none=>none
inductive GR (T:Tab) (n:Nat) (ρ:Rho):List (List AX)->qaY->Prop where
 |nil:GR T n ρ [] []
 |cons {a:List AX} {x:List X} {l:List (List AX)} {m:qaY}:GL T n ρ a x->GR T n ρ l m->GR T n ρ (a::l) (x::m)
theorem GR.len:∀{l:List (List AX)} {m:qaY},GR T n ρ l m->l.length=m.length
 |_,_,.nil=>rfl
 |_,_,.cons _ h=>by rw [qaz,qaz,h.len]
theorem GT.len:∀{l:List (Nat×AX)} {m:List (Nat×X)},GT T n ρ l m->l.length=m.length
 |_,_,.nil=>rfl
 |_,_,.cons _ h=>by rw [qaz,qaz,h.len]
theorem GR.mem:∀{l:List (List AX)} {m:qaY} {e:List X},GR T n ρ l m->e∈m->∃c,c∈l/\GL T n ρ c e
 |_,_,e,.cons h1 h2,hm=>by
  rcases qaj.1 hm with rfl|hm
  ·grind
  obtain ⟨c,h3,h4⟩:=h2.mem hm<;>grind
theorem uJ {sz:Nat}:∀{l:List (Nat×AX)} {m:List (Nat×X)} {k:Nat} {rows:List (List AX)},GT T n ρ l m->wU sz k l=some rows->∃es,pY sz k m=some es/\GR T n ρ rows es
 |_,_,k,rows,.nil,e=>by simp only [wU,qag] at e;subst e;exact ⟨[],rfl,.nil⟩
 |_,_,k,rows,.cons h1 h2,e=>by
  unfold wU at e;split at e
  ·rename_i cs hc;obtain ⟨k1,k2⟩:=cells_ok h1 hc;split at e;next hb=>obtain ⟨r',h3,rfl⟩:=qac.1 e;obtain ⟨es,h4,h5⟩:=uJ h2 h3;simp only [qab] at hb;obtain ⟨⟨b1,b2⟩,b3⟩:=hb;refine ⟨_::es,?_,.cons k2 h5⟩;unfold pY;rw [k1,<-k2.len,k2.refs,b1,b2,b3]<;>simp_all
   grind
  grind
def blt (l:Lin)(n:Nat):Bool:=Nat.blt l.s n
theorem zbv {m:Nat}(h:blt l m=true):l.s<m:=by have:=Nat.le_of_ble_eq_true h;omega
def QW (T:Tab)(K:Names)(a:ASt)(len:Nat)(zero:List X)(parts:List (Nat×Opd)):Option (List Out):=
 match BK a parts with
 |none=>none
 |some ps=>if len==ps.length then match wU zero.length 0 ps with
  |none=>none
  |some []=>some [(.x (.sl true zero.length []),a,fp0)]
  |some rows=>match kindOf T K a.F zero.length rows with
   |some (k,H)=>if blt H a.nx then some [(.sl (some true) zero.length k H (.k rows.length),a,fp0)] else none
   |none=>none else none
theorem WG {len:Nat}{zero:List X}{parts:List (Nat×Opd)}{outs:List Out}(hr:R T ρ a σ)(h:QW T K a len zero parts=some outs):dR T ρ a σ (.D8 len zero parts) outs:=by
 unfold QW at h;split at h;·cases h
 rename_i ps hp;obtain ⟨xs,hx,hg⟩:=F5 hr hp;split at h
 ·rename_i hl;rw [hg.len] at hl;split at h;·cases h
  next hb=>cases h;obtain ⟨es,h1,h2⟩:=uJ hg hb;cases h2;exact .one hr (.x rfl) (fun Γ=>by simp only [aG,hx,hl,if_true,h1,qao];rfl)
  rename_i rows _ hb;split at h
  ·rename_i k H hk;split at h;next hlt=>cases h;obtain ⟨es,h1,h2⟩:=uJ hg hb;have hf:=ML hk;refine .one hr (.sl (zbv hlt) hr.pos rfl (by rw [Lin.k_v hr.zero,h2.len]) fun e he=>?_) (fun Γ=>by simp only [aG,hx,hl,if_true,h1,qao];rfl);obtain ⟨c,h3,h4⟩:=h2.mem he;exact Qw hr.zero hr.F (hf c h3) h4
   grind
  grind
 grind
end Go.Ab
namespace Go.Ab
open Go.Em
variable {a:ASt}{y:AX}{k:IntKind}{l:Lin}{outs:List Out}{K:Names}{ox:Opd}{hi lo:Option Opd}{σ:St}{x:X}
variable {T:Tab} {n:Nat} {ρ:Rho}
theorem Ja (hg:G T n ρ (.i k l) x)(hk:k=.i64)(h:0<=l.v ρ):Xj x=some (l.v ρ).toNat:=by subst hk;cases hg<;>simp_all[Xj]
theorem C9 (hg:G T n ρ (.i k l) x)(h:0<=l.v ρ):Ju x=some (l.v ρ).toNat:=by
 cases hg<;>simp_all[Ju]
def zbV (a:ASt)(d:Lin):Option Opd->Option Lin
 |none=>some d
 |some o=>match a.ev o with
  |some (.i .i64 l)=>if nonneg a.F l then some l else none
  |_=>none
theorem qW (hr:R T ρ a σ){d:Lin}{dn:Nat}{o:Option Opd}(hd:(dn:Int)=d.v ρ)(hds:d.s<a.nx)(h:zbV a d o=some l):∃m,dQ σ dn o=some m/\(m:Int)=l.v ρ/\l.s<a.nx:=by
 unfold zbV at h;split at h;·cases h;exact ⟨dn,rfl,hd,hds⟩
 rename_i o;split at h
 ·rename_i l' e;split at h;next hn=>cases h;obtain ⟨x,hx,hg⟩:=cO hr e;have h0:=jg hr hn;have h1:=Ja hg rfl h0;cases hg<;>grind[dQ]
  grind
 grind
def zg9 (a:ASt)(neg:Bool)(x:AX):Option (List Out):=match x with
 |.bs _ _ l=>if leL a.F (.k 1) l then some [(cb neg,a,fp0)] else none
 |.sl _ _ _ _ l=>if leL a.F (.k 1) l then some [(cb neg,a,fp0)] else none
 |_=>none
theorem zcQ (hr:R T ρ a σ){neg:Bool}(e:σ.ev ox=some x)(hg:G T a.nx ρ y x)(h:zg9 a neg y=some outs):dR T ρ a σ (.zfM neg ox) outs:=by
 unfold zg9 at h;split at h
 ·split at h
  ·rename_i hc;cases h;have c:=aU hr.F hc;rw [Lin.k_v hr.zero] at c;cases hg with
   |bs h1 h2 h3 h4=>rename_i o' l';obtain ⟨m,rfl⟩:∃m,l'=m+1:=⟨l'-1,by omega⟩;exact .one hr (zU neg) (fun Γ=>by simp only [aG,e];rfl)
  grind
 ·split at h
  ·rename_i hc;cases h;have c:=aU hr.F hc;rw [Lin.k_v hr.zero] at c;cases hg with
   |sl h1 h2 h3 h4 h5=>
    rename_i tt es;cases es with
    |nil=>grind
    |cons w r=>exact .one hr (zU neg) (fun Γ=>by simp only [aG,e];rfl)
  grind
 grind
def CW:List ET->Bool
 |[.i .u8 lo hi]=>(match lo with|none=>true|some a=>leI a 0)&&(match hi with|none=>true|some b=>leI 255 b)
 |_=>false
def Ko (T:Tab)(K:Names):Option Nat:=(K 1).find? fun k=>(T k).any CW
theorem QV {k:Nat}(h:Ko T K=some k)(b:UInt8):D T 1 k [.v (.int .u8 (b.toNat:Int))]:=by
 unfold Ko at h;have hk:=List.find?_some (p:=fun k=>(T k).any CW) h;obtain ⟨alt,ha,hb⟩:=List.any_eq_true.1 hk;refine dH (Int.le_refl _) ha ?_;unfold CW at hb;split at hb
 ·rename_i lo hi;rw [qab] at hb;have:=b.toNat_lt;refine ⟨⟨rfl,fun a e=>?_,fun c e=>?_⟩,trivial⟩
  ·grind[jE]
  grind[jE]
 grind
def zpJ (T:Tab)(K:Names)(a:ASt)(x:AX):Option (List Out):=match XT x,Ko T K with
 |some l,some k=>some [(.sl (some false) 1 k (.k 1) l,a,fp0)]
 |_,_=>none
theorem zhi (hr:R T ρ a σ)(e:σ.ev ox=some x)(hg:G T a.nx ρ y x)(h:zpJ T K a y=some outs):dR T ρ a σ (.s2b ox) outs:=by
 unfold zpJ at h;split at h
 ·rename_i l k h1 h2;cases h;obtain ⟨bs,rfl,h3,h4⟩:=o7 hr.zero hr.pos hg h1;refine .one hr (.sl hr.pos h4 rfl ?_ fun w hw=>?_) (fun Γ=>by simp only [aG,e];rfl);·simp_all[byteRow]
  unfold byteRow at hw;obtain ⟨b,_,rfl⟩:=qal.1 hw;rw [Lin.k_v hr.zero]<;>grind[QV]
 grind
def QG (t:Option Bool)(whole:Bool):Option Bool:=if whole then t else match t with|some false=>some false|_=>none
theorem Wq {t:Option Bool}{w:Bool}{tt:Bool}{h len:Nat}(hf:Dt t tt)(hw:w=true->h=len):Dt (QG t w) (tt&&h==len):=by
 unfold QG;split
 ·grind
 split;·cases hf;rfl
 trivial
def Yd (a:ASt)(sz:Nat)(x:AX)(lo hi mx:Option Opd):Option (List Out):=match x with
 |.sl t s k h len=>match zbV a (.k 0) lo,zbV a len hi with
  |some l,some r=>if Nat.beq s sz&&leL a.F l r&&leL a.F r len then
    match yE a r l with
    |(d,a')=>match mx with
     |none=>some [(.sl (QG t (eqL a.F r len)) s k h d,a',fp0)]
     |some m=>match a.ev m with
      |some (.i .i64 lm)=>if eqL a.F r lm&&nonneg a.F lm then some [(.sl (some true) s k h d,a',fp0)] else none
      |_=>none
    else none
  |_,_=>none
 |.x (.sl t s [])=>match zbV a (.k 0) lo,zbV a (.k 0) hi,mx with
  |some l,some r,none=>if Nat.beq s sz&&leL a.F l (.k 0)&&leL a.F r (.k 0) then some [(.x (.sl t s []),a,fp0)] else none
  |_,_,_=>none
 |.bs i o len=>match zbV a (.k 0) lo,zbV a len hi,mx with
  |some l,some r,none=>if leL a.F l r&&leL a.F r len then
    (if eqL a.F l r then some [(.x (.sl false sz []),a,fp0)]
     else if leL a.F (l.up 1) r then match a.bx[i]?,Xc o l with
     |some (.row s _ _ _),some o'=>if Nat.beq s sz then match yE a r l with
      |(d,a')=>some [(.bs i o' d,a',⟨false,[i],[]⟩)] else none
     |_,_=>none
     else none) else none
  |_,_,_=>none
 |_=>none
theorem Yc (hr:R T ρ a σ){sz:Nat}{mx:Option Opd}(e:σ.ev ox=some x)(hg:G T a.nx ρ y x)(h:Yd a sz y lo hi mx=some outs):dR T ρ a σ (.slice sz ox lo hi mx) outs:=by
 unfold Yd at h;split at h
 ·rename_i t s k hh len;cases hg with
  |sl g1 g2 g3 g4 g5=>
   rename_i tt es;split at h
   ·rename_i l r e1 e2;obtain ⟨nl,n1,n2,n3⟩:=qW hr (dn:=0) (by rw [Lin.k_v hr.zero];rfl) hr.pos e1;obtain ⟨nr,m1,m2,m3⟩:=qW hr (dn:=es.length) g4 g2 e2;split at h
    ·rename_i hc;simp only [qab] at hc;obtain ⟨⟨c1,c2⟩,c3⟩:=hc;have d2:=aU hr.F c2;have d3:=aU hr.F c3;have c1:=qai c1;subst c1;obtain ⟨ρ',p1,p2,p3,p4,p5⟩:=JR hr m3 d2;have q1:nl<=nr:=by omega
     have q2:nr<=es.length:=by omega
     generalize yE a r l=q at p1 p2 p3 p4 p5 h;obtain ⟨d,a'⟩:=q;dsimp only at p1 p2 p3 p4 p5 h;have hlen:((((es.take nr).drop nl).length:Nat):Int)=d.v ρ':=by rw [p4,qaL,qaf,Nat.min_eq_left q2];omega
     have hel:∀w,w∈(es.take nr).drop nl->D T (hh.v ρ') k w:=fun w hw=>by rw [p1.lin g1]<;>grind
     split at h
     ·cases h;refine ⟨_,qaa.2 rfl,ρ',_,σ.bx,p1,p2,.sl (p1.lt g1) p3 (Wq (h:=nr) (len:=es.length) g3 fun hw=>?_) hlen hel,fun Γ=>?_⟩;·have:=Nr hr.F hw;omega
      simp only [aG,e,n1,m1,beq_self_eq_true,q1,q2,decide_true,Bool.and_self,if_true];rfl
     rename_i m;split at h
     ·rename_i lm em;split at h
      ·rename_i hm;cases h;rw [qab] at hm;obtain ⟨xm,hx,hgm⟩:=cO hr em;have k0:=jg hr hm.2;have k1:=Ja hgm rfl k0;have k2:=Nr hr.F hm.1;have k3:(lm.v ρ).toNat=nr:=by omega
       rw [k3] at k1;refine ⟨_,qaa.2 rfl,ρ',_,σ.bx,p1,p2,.sl (p1.lt g1) p3 rfl hlen hel,fun Γ=>?_⟩;simp only [aG,e,n1,m1,beq_self_eq_true,q1,q2,decide_true,Bool.and_self,if_true,hx,Option.bind_some,k1];rfl
      grind
     grind
    grind
   grind
 ·rename_i t s;cases hg;split at h
  ·rename_i l r e1 e2;obtain ⟨nl,n1,n2,n3⟩:=qW hr (dn:=0) (by rw [Lin.k_v hr.zero];rfl) hr.pos e1;obtain ⟨nr,m1,m2,m3⟩:=qW hr (dn:=0) (by rw [Lin.k_v hr.zero];rfl) hr.pos e2;split at h
   ·rename_i hc;cases h;simp only [qab] at hc;obtain ⟨⟨c1,c2⟩,c3⟩:=hc;have d2:=aU hr.F c2;have d3:=aU hr.F c3;rw [Lin.k_v hr.zero] at d2 d3;have c1:=qai c1;subst c1;have:nl=0:=by omega
    subst this;have:nr=0:=by omega
    subst this;exact .one hr (.x rfl) (fun Γ=>by simp only [aG,e,n1,qaR,m1,beq_self_eq_true,Nat.le_refl,decide_true,if_true,List.take_nil,List.drop_nil,Bool.and_true];rfl)
   grind
  grind
 ·rename_i i o len;cases hg with
  |bs g1 g2 g3 g4=>
   rename_i o' l';split at h
   ·rename_i l r e1 e2;obtain ⟨nl,n1,n2,n3⟩:=qW hr (dn:=0) (by rw [Lin.k_v hr.zero];rfl) hr.pos e1;obtain ⟨nr,m1,m2,m3⟩:=qW hr (dn:=l') g4 g2 e2;split at h
    ·rename_i hc;simp at hc;obtain ⟨c2,c3⟩:=hc;have d2:=aU hr.F c2;have d3:=aU hr.F c3;have q1:nl<=nr:=by omega
     have q2:nr<=l':=by omega
     split at h
     ·rename_i he;cases h;have:=Nr hr.F he;have:nl=nr:=by omega
      subst this;exact .one hr (.x rfl) (fun Γ=>by simp only [aG,e,n1,m1,q2,Nat.le_refl,decide_true,Bool.and_self,if_true,beq_self_eq_true];rfl)
     split at h
     ·rename_i hlt;have d4:=aU hr.F hlt;rw [Lin.mQ] at d4;have hne:(nl==nr)=false:=by rw [beq_eq_false_iff_ne];omega
      split at h
      ·rename_i s kk hh ll o2 hb ha;split at h
       ·rename_i hs;have hs:=qai hs;subst hs;obtain ⟨ρ',p1,p2,p3,p4,p5⟩:=JR hr m3 d2;generalize yE a r l=q at p1 p2 p3 p4 p5 h;obtain ⟨d,a'⟩:=q;dsimp only at p1 p2 p3 p4 p5 h;cases h;obtain ⟨b,hb',hgb⟩:=hr.bx.get hb;cases hgb with
        |row _ _ _ _=>have ho:=Ec ha g1 n3;refine ⟨_,qaa.2 rfl,ρ',.bs i (o'+nl) (nr-nl),σ.bx,p1,p2,.bs (p1.lt ho) p3 (by rw [p1.lin ho,qg hr.zero ha];omega) (by rw [p4];omega),fun Γ=>?_⟩<;>simp_all[aG]
       grind
      grind
     grind
    grind
   grind
 grind
def Yb (a:ASt)(x:AX)(lo hi:Option Opd):Option (List Out):=match XT x with
 |some len=>match zbV a (.k 0) lo,zbV a len hi with
  |some l,some r=>if leL a.F l r&&leL a.F r len then match yE a r l with
   |(d,a')=>some [(.s d,a',fp0)] else none
  |_,_=>none
 |none=>none
theorem extract_size {bs:qaZ}{l r:Nat}(h1:l<=r)(h2:r<=bs.size):(bs.extract l r).size=r-l:=by simp_all
theorem Ya (hr:R T ρ a σ)(e:σ.ev ox=some x)(hg:G T a.nx ρ y x)(h:Yb a y lo hi=some outs):dR T ρ a σ (.tC ox lo hi) outs:=by
 unfold Yb at h;split at h
 ·rename_i len hl;obtain ⟨bs,rfl,g4,g2⟩:=o7 hr.zero hr.pos hg hl;split at h
  ·rename_i l r e1 e2;obtain ⟨nl,n1,n2,n3⟩:=qW hr (dn:=0) (by rw [Lin.k_v hr.zero];rfl) hr.pos e1;obtain ⟨nr,m1,m2,m3⟩:=qW hr (dn:=bs.size) g4 g2 e2;split at h
   ·rename_i hc;simp at hc;obtain ⟨c2,c3⟩:=hc;have d2:=aU hr.F c2;have d3:=aU hr.F c3;obtain ⟨ρ',p1,p2,p3,p4,p5⟩:=JR hr m3 d2;have q1:nl<=nr:=by omega
    have q2:nr<=bs.size:=by omega
    generalize yE a r l=q at p1 p2 p3 p4 p5 h;obtain ⟨d,a'⟩:=q;dsimp only at p1 p2 p3 p4 p5 h;cases h;refine ⟨_,qaa.2 rfl,ρ',.v (.string (bs.extract nl nr)),σ.bx,p1,p2,.s p3 (by grind[extract_size]),fun Γ=>?_⟩;simp only [aG,e,n1,m1,q1,q2,decide_true,Bool.and_self,if_true];rfl
   grind
  grind
 grind
end Go.Ab
namespace Go.Ab
open Go.Em
variable {a:ASt}{y z:AX}{m sz:Nat}{oj ox:Opd}{σ:St}{j x:X}
variable {T:Tab} {n:Nat} {ρ:Rho}
def Nz (l:Lin):Option Nat:=if Nat.beq l.s 0 then (match l.c with|.ofNat m=>some m|_=>none) else none
theorem DF (h0:ρ 0=0){l:Lin}(h:Nz l=some m):l.v ρ=m:=by
 unfold Nz at h;split at h;next e=>split at h<;>grind[Lin.v,qai]
 grind
theorem dR.outs {i:I}{fp:FP}{f:List AX×ASt->Out}{l:List (List AX×ASt)}{q:List AX×ASt}{ρ':Rho}(hq:q∈l)(hm:More a.nx ρ (f q).2.1.nx ρ')(hr:R T ρ' (f q).2.1 σ)(hg:G T (f q).2.1.nx ρ' (f q).1 x)(hfp:(f q).2.2=fp)(hs:∀Γ,aG Γ σ i=some (x,σ.bx,fp)):dR T ρ a σ i (l.map f):=
 ⟨f q,qal.2 ⟨q,hq,rfl⟩,ρ',x,σ.bx,hm,hr,hg,by grind⟩
def ZQ (T:Tab)(a:ASt)(arr:Option Nat)(sz:Nat)(x j:AX):Option (List Out):=match j with
 |.i _ l=>if nonneg a.F l then match arr,x with
  |none,.sl _ s k h len=>if Nat.beq s sz&&leL a.F (l.up 1) len then some ((VI T a k h).map fun q=>(.dp q.1,q.2,fp0)) else none
  |none,.bs i o len=>match a.bx[i]?,Xc o l with
   |some (.row s _ _ _),some o'=>if Nat.beq s sz&&leL a.F (l.up 1) len then some [(.ptr i o' 0,a,⟨false,[i],[]⟩)] else none
   |_,_=>none
  |some len,.ptr i e o=>match Nz l with
   |some m=>if Nat.blt m len then some [(.ptr i e (o+m*sz),a,fp0)] else none
   |none=>none
  |some len,.dp cs=>match Nz l with
   |some m=>if Nat.blt m len then some [(.dp (cs.drop (m*sz)),a,fp0)] else none
   |none=>none
  |_,_=>none else none
 |_=>none
theorem dX {k:Nat}(h:Nat.blt m k=true):m<k:=by simp_all
theorem ZP (hr:R T ρ a σ){arr:Option Nat}{outs:List Out}(e1:σ.ev ox=some x)(e2:σ.ev oj=some j)(g1:G T a.nx ρ y x)(g2:G T a.nx ρ z j)(h:ZQ T a arr sz y z=some outs):dR T ρ a σ (.yg arr sz ox oj) outs:=by
 unfold ZQ at h;split at h
 ·rename_i kd l;split at h
  ·rename_i hn;have h0:=jg hr hn;have hj:=C9 g2 h0;have hls:l.s<a.nx:=by cases g2 with|i h1 _=>grind
   have zqr:=Int.toNat_of_nonneg h0;generalize (l.v ρ).toNat=m at hj zqr;split at h
   ·rename_i t s k hh len;split at h
    ·rename_i hc;cases h;rw [qab] at hc;have c2:=aU hr.F hc.2;rw [Lin.mQ] at c2;have c1:=qai hc.1;subst c1;cases g1 with
     |sl q1 q2 q3 q4 q5=>rename_i tt es;obtain ⟨w,hw,hmem⟩:=kP (l:=es) (i:=m) (by omega);obtain ⟨q,hq,ρ',m1,m2,m3⟩:=Ai hr q1 (q5 w hmem);exact .outs hq m1 m2 (.dp m3) rfl (fun Γ=>by simp only [aG,e1,e2,Option.bind_some,hj,beq_self_eq_true,if_true,hw,qao];rfl)
    grind
   ·rename_i i o len;split at h
    ·rename_i s kk hh ll o' hb ha;split at h
     ·rename_i hc;cases h;rw [qab] at hc;have c2:=aU hr.F hc.2;rw [Lin.mQ] at c2;have c1:=qai hc.1;subst c1;cases g1 with
      |bs q1 q2 q3 q4=>
       rename_i off ln;obtain ⟨b,hb',hgb⟩:=hr.bx.get hb;cases hgb with
       |row _ _ _ _=>have hlt:decide (m<ln)=true:=decide_eq_true (by omega);exact dR.one (x:=.ptr i (off+m) 0) hr (.ptr (Ec ha q1 hls) (by rw [qg hr.zero ha];omega)) (fun Γ=>by simp_all[aG])
     grind
    grind
   ·rename_i len i e o;split at h
    ·rename_i m' hm;split at h
     ·rename_i hc;cases h;have:=DF hr.zero hm;have:m=m':=by omega
      subst this;cases g1 with
      |ptr q1 q2=>exact .one hr (.ptr q1 q2) (fun Γ=>by simp only [aG,e1,e2,Option.bind_some,hj,if_pos (dX hc)];rfl)
     grind
    grind
   ·rename_i len cs;split at h
    ·rename_i m' hm;split at h
     ·rename_i hc;cases h;have:=DF hr.zero hm;have:m=m':=by omega
      subst this;cases g1 with
      |dp q1=>exact .one hr (.dp (q1.drop _)) (fun Γ=>by simp only [aG,e1,e2,Option.bind_some,hj,if_pos (dX hc)];rfl)
     grind
    grind
   grind
  grind
 grind
def X8 (k:IntKind):List AX->Option (Int×Int)
 |[]=>none
 |[.i k' l]=>if k'=k&&Nat.beq l.s 0 then some (l.c,l.c) else none
 |.i k' l::r=>if k'=k&&Nat.beq l.s 0 then (X8 k r).map fun q=>(if leI l.c q.1 then l.c else q.1,if leI q.2 l.c then l.c else q.2) else none
 |_=>none
theorem Rz (h0:ρ 0=0){k:IntKind}:∀{l:List AX} {m:List X} {lo hi:Int} {j:Nat} {x:X},GL T n ρ l m->X8 k l=some (lo,hi)->m[j]?=some x->∃z,x=.v (.int k z)/\lo<=z/\z<=hi
 |[a],_,lo,hi,j,x,.cons g1 .nil,h,hx=>by
  unfold X8 at h;split at h
  ·grind
  ·rename_i k' l heq;cases heq;split at h
   ·rename_i hc;cases h;simp only [qab,qaF] at hc;obtain ⟨rfl,c2⟩:=hc;cases j with
    |zero=>simp at hx;subst hx;cases g1<;>simp_all[Lin.v]
    |succ j=>grind
   grind
  ·grind
  grind
 |a::b::r,_,lo,hi,j,x,.cons g1 g2,h,hx=>by
  unfold X8 at h;split at h
  ·grind
  ·grind
  ·rename_i k' l r' _ heq;cases heq;split at h
   ·rename_i hc;obtain ⟨⟨lo',hi'⟩,hq,he⟩:=qac.1 h;dsimp only at he;cases he;simp only [qab,qaF] at hc;obtain ⟨rfl,c2⟩:=hc;have b1:∀u v:Int,(if leI u v then u else v)<=u/\(if leI u v then u else v)<=v:=fun u v=>by grind[jE]
    have b2:∀u v:Int,u<=(if leI u v then v else u)/\v<=(if leI u v then v else u):=fun u v=>by grind
    have d1:=b1 l.c lo';have d2:=b2 hi' l.c;cases j with
    |zero=>simp at hx;subst hx;cases g1<;>simp_all[Lin.v]
    |succ j=>
     obtain ⟨z,rfl,z1,z2⟩:=Rz h0 g2 hq (by simpa using hx)
     grind
   grind
  grind
def zlg (a:ASt)(len sz:Nat)(m:Option Nat)(x j:AX):Option (List Out):=match x,j with
 |.agg cs,.i _ l=>match Nz l with
  |some c=>if Nat.blt c len then (match m with
    |none=>(cs[c*sz]?).map fun y=>[(y,a,fp0)]
    |some m=>if ((cs.drop (c*sz)).take m).length==m then some [(.agg ((cs.drop (c*sz)).take m),a,fp0)] else none) else none
  |none=>match m,cs with
   |none,.i k _::_=>if Nat.beq sz 1&&Nat.beq cs.length len&&nonneg a.F l&&leL a.F (l.up 1) (.k len) then (X8 k cs).map fun q=>[Xi a k (bnd ⟨a.nx,0⟩ (some q.1) (some q.2))] else none
   |_,_=>none
 |_,_=>none
theorem zfj (hr:R T ρ a σ){len:Nat}{m:Option Nat}{outs:List Out}(e1:σ.ev ox=some x)(e2:σ.ev oj=some j)(g1:G T a.nx ρ y x)(g2:G T a.nx ρ z j)(h:zlg a len sz m y z=some outs):dR T ρ a σ (.zlh len sz m ox oj) outs:=by
 unfold zlg at h;split at h
 ·rename_i cs kd l;cases g1 with
  |agg q1=>
   rename_i xs;split at h
   ·rename_i c hc;have hv:=DF hr.zero hc;have hj:=C9 g2 (by omega);rw [hv,Int.toNat_natCast] at hj;split at h
    ·rename_i hb;have hlt:=dX hb;split at h;·obtain ⟨w,hw,rfl⟩:=qac.1 h;obtain ⟨u,hu,hg⟩:=q1.get hw;exact .one hr hg (fun Γ=>by simp only [aG,e1,e2,Option.bind_some,hj,if_pos hlt,hu,qao];rfl)
     rename_i m;split at h;next hl=>cases h;have q2:=(q1.drop (c*sz)).take m;rw [q2.len] at hl;exact .one hr (.agg q2) (fun Γ=>by simp only [aG,e1,e2,Option.bind_some,hj,if_pos hlt,if_pos hl];rfl)
     grind
    grind
   split at h
   ·rename_i k l' r;split at h
    ·rename_i hc;obtain ⟨⟨lo,hi⟩,hq,rfl⟩:=qac.1 h;simp only [qab] at hc;obtain ⟨⟨⟨c1,c2⟩,c3⟩,c4⟩:=hc;have c1:=qai c1;subst c1;have c2:=qai c2;have d3:=jg hr c3;have d4:=aU hr.F c4;rw [Lin.mQ,Lin.k_v hr.zero] at d4;have hj:=C9 g2 d3;have hlen:=q1.len;have hlt:(l.v ρ).toNat<len:=by omega
     have hx:xs[(l.v ρ).toNat]?=some xs[(l.v ρ).toNat]:=qad (by omega);obtain ⟨w,hw,w1,w2⟩:=Rz hr.zero q1 hq hx;rw [hw] at hx;refine lD hr (z:=w) (wV (lU hr _) (Nat.succ_pos _) (qae _) (by grind[dN]) (by grind[dN])) (fun Γ=>?_);simp only [aG,e1,e2,Option.bind_some,hj,if_pos hlt,Nat.mul_one,hx,qao];rfl
    grind
   grind
 grind
def zhd (a:ASt)(x j:AX):Option (List Out):=match XT x,j with
 |some len,.i _ l=>if nonneg a.F l&&leL a.F (l.up 1) len then some [Xi a .u8 (bnd ⟨a.nx,0⟩ (some 0) (some 255))] else none
 |_,_=>none
theorem zcU (hr:R T ρ a σ){outs:List Out}(e1:σ.ev ox=some x)(e2:σ.ev oj=some j)(g1:G T a.nx ρ y x)(g2:G T a.nx ρ z j)(h:zhd a y z=some outs):dR T ρ a σ (.zfO ox oj) outs:=by
 unfold zhd at h;split at h
 ·rename_i len kd l hl;obtain ⟨bs,rfl,s1,s2⟩:=o7 hr.zero hr.pos g1 hl;split at h
  ·rename_i hc;cases h;rw [qab] at hc;have d3:=jg hr hc.1;have d4:=aU hr.F hc.2;rw [Lin.mQ] at d4;have hj:=C9 g2 d3;have hlt:(l.v ρ).toNat<bs.size:=by omega
   have hb:bs[(l.v ρ).toNat]?=some bs[(l.v ρ).toNat]:=getElem?_pos bs _ hlt;have:=(bs[(l.v ρ).toNat]).toNat_lt;refine lD hr (z:=((bs[(l.v ρ).toNat]).toNat:Int)) (wV (lU hr _) (Nat.succ_pos _) (qae _) (by grind[dN]) (by grind[dN])) (fun Γ=>?_);simp only [aG,e1,e2,Option.bind_some,hj,hb];rfl
  grind
 grind
end Go.Ab
namespace Go.Ab
open Go.Em
variable {a a':ASt}{xa y:AX}{own:Bool}{H h1 l l1:Lin}{e1 e2:qaY}{outs:List Out}{bytes k k1 m sz:Nat}{ox oy:Opd}{σ:St}{x:X}
variable {T:Tab} {n:Nat} {ρ:Rho}
def U6 (F:List Fact)(l:Lin)(bytes:Nat):Bool:=match high F l with
 |some (.ofNat c)=>dD c bytes
 |_=>false
theorem YD {c:Nat}(h:dD c bytes=true)(hm:m<=c):dD m bytes=true:=by simp only [dD,qab,qaF] at h ⊢;exact ⟨Nat.le_trans (qaG _ hm) h.1,by omega⟩
theorem Ae {F:List Fact}(h0:ρ 0=0)(hF:aX n ρ F)(h:U6 F l bytes=true)(hm:(m:Int)=l.v ρ):dD m bytes=true:=by
 unfold U6 at h;split at h;next c e=>have b:=jG h0 hF e<;>grind[YD]
 grind
def zh7 (T:Tab)(K:Names)(a:ASt)(bytes:Nat)(zero:List X)(x c:AX):Option (List Out):=match x,c with
 |.i .i64 l,.i .i64 lc=>if nonneg a.F l&&leL a.F l lc&&U6 a.F lc bytes&&EU zero then match kindOf T K a.F zero.length [zdq zero] with
  |some (k,H)=>if blt H a.nx then some [(.bs a.bx.length (.k 0) l,{a with bx:=a.bx++[.row zero.length k H l]},⟨true,[],[a.bx.length]⟩)] else none
  |none=>none else none
 |_,_=>none
theorem zdu {K:Names}(hr:R T ρ a σ){zero:List X}{oc:Opd}{z:AX}{c:X}(e1:σ.ev ox=some x)(e2:σ.ev oc=some c)(g1:G T a.nx ρ y x)(g2:G T a.nx ρ z c)(h:zh7 T K a bytes zero y z=some outs):dR T ρ a σ (.zf0 bytes zero ox oc) outs:=by
 unfold zh7 at h;split at h
 ·rename_i l lc;split at h
  ·rename_i hc;simp at hc;obtain ⟨⟨⟨c1,c2⟩,c3⟩,c4⟩:=hc;split at h
   ·rename_i k H hk;split at h
    ·rename_i hb;cases h;have d1:=jg hr c1;have d2:=aU hr.F c2;have n1:=Ja g1 rfl d1;have n2:=Ja g2 rfl (by omega);have hls:l.s<a.nx:=by cases g1 with|i h1 _=>grind
     have hz:=Qw hr.zero hr.F (ML hk _ (qaa.2 rfl)) (qX hr.zero hr.pos _ c4);have hroom:=Ae hr.zero hr.F c3 (m:=(lc.v ρ).toNat) (by omega);have hle:(l.v ρ).toNat<=(lc.v ρ).toNat:=by omega
     refine ⟨_,qaa.2 rfl,ρ,.bs σ.bx.length 0 (l.v ρ).toNat,σ.bx++[.row zero.length (List.replicate (l.v ρ).toNat zero)],.refl ..,⟨hr.zero,hr.pos,hr.F,hr.tm,hr.bx.snoc (.row (zbv hb) hls (by grind) fun w hw=>?_)⟩,?_,fun Γ=>?_⟩
     ·grind
     ·rw [hr.bx.len];exact .bs hr.pos hls (by rw [Lin.k_v hr.zero];rfl) (by omega)
     simp only [aG,e1,e2,Option.bind_some,n1,n2,hle,hroom,decide_true,Bool.and_self,if_true];rw [hr.bx.len]
    grind
   grind
  grind
 grind
structure Src where
 sz:Nat
 k:Nat
 h:Lin
 l:Lin
variable {s:Src}
def zpE (a:ASt):AX->Option Src
 |.sl _ sz k h l=>some ⟨sz,k,h,l⟩
 |.x (.sl _ sz [])=>some ⟨sz,0,.k 1,.k 0⟩
 |.bs i o l=>match a.bx[i]?,Xc o l with
  |some (.row sz k h rl),some e=>if leL a.F e rl then some ⟨sz,k,h,l⟩ else none
  |_,_=>none
 |_=>none
def yV:AX->List Nat
 |.bs j _ _=>[j]
 |_=>[]
theorem zg7 (hr:R T ρ a σ)(hg:G T a.nx ρ y x)(h:zpE a y=some s):∃es,o8 σ.bx x=some (s.sz,es)/\s.h.s<a.nx/\s.l.s<a.nx/\(es.length:Int)=s.l.v ρ/\(∀e,e∈es->D T (s.h.v ρ) s.k e)/\x.rows=yV y:=by
 unfold zpE at h;split at h
 ·cases h;cases hg with
  |sl h1 h2 h3 h4 h5=>exact ⟨_,rfl,h1,h2,h4,h5,rfl⟩
 ·cases h;cases hg;exact ⟨[],rfl,hr.pos,hr.pos,by rw [Lin.k_v hr.zero];rfl,(fun e he=>by grind),rfl⟩
 ·split at h
  ·rename_i sz k hh rl e hb ha;split at h
   ·rename_i hc;cases h;have c:=aU hr.F hc;rw [qg hr.zero ha] at c;cases hg with
    |bs q1 q2 q3 q4=>
     rename_i i o l o' l';obtain ⟨b,hb',hgb⟩:=hr.bx.get hb;cases hgb with
     |row w1 w2 w3 w4=>
      rename_i es;have hle:o'+l'<=es.length:=by omega
      refine ⟨(es.drop o').take l',by simp_all[o8,rowOf],w1,q2,?_,fun w hw=>w4 w (List.mem_of_mem_drop (List.mem_of_mem_take hw)),rfl⟩
      grind
   grind
  grind
 grind
def zin (a:ASt)(k1:Nat)(h1 l1:Lin)(k2:Nat)(h2 l2:Lin):Option (Nat×Lin×ASt):=
 if leL a.F l1 (.k 0) then some (k2,h2,a)
 else if leL a.F l2 (.k 0) then some (k1,h1,a)
 else if Nat.beq k1 k2 then (match maxS a h1 h2 with|(H,a')=>some (k1,H,a')) else none
theorem zdK (hr:R T ρ a σ){k2:Nat}{h2 l2:Lin}(s1:h1.s<a.nx)(s2:h2.s<a.nx)(n1:(e1.length:Int)=l1.v ρ)(n2:(e2.length:Int)=l2.v ρ)(d1:∀e,e∈e1->D T (h1.v ρ) k1 e)(d2:∀e,e∈e2->D T (h2.v ρ) k2 e)(h:zin a k1 h1 l1 k2 h2 l2=some (k,H,a')):
  ∃ρ',More a.nx ρ a'.nx ρ'/\R T ρ' a' σ/\H.s<a'.nx/\(∀e,e∈e1++e2->D T (H.v ρ') k e)/\a'.bx=a.bx:=by
 unfold zin at h;split at h;next hc=>cases h;have c:=aU hr.F hc;rw [Lin.k_v hr.zero] at c;have:e1=[]:=qaM (by omega);subst this;exact ⟨ρ,.refl ..,hr,s2,d2,rfl⟩
 split at h;next hc=>cases h;have c:=aU hr.F hc;rw [Lin.k_v hr.zero] at c;have:e2=[]:=qaM (by omega);subst this;exact ⟨ρ,.refl ..,hr,s1,by grind,rfl⟩
 grind[qai,Zq,fU]
def zpl (a:ASt)(bytes:Nat)(k1:Nat)(h1 l1:Lin)(s:Src):Option (Nat×Lin×Lin×ASt):=match zmf a l1 s.l with
 |some (N,a1)=>if U6 a1.F N bytes then match zin a1 k1 h1 l1 s.k s.h s.l with
  |some (k,H,a2)=>some (k,H,N,a2)
  |none=>none else none
 |none=>none
theorem zg3 {x y:Lin}(h:zmf a x y=some (l,a')):a'.bx=a.bx:=by
 unfold zmf at h;split at h
 ·grind
 split at h;·cases h;rfl
 grind
theorem zbB (hr:R T ρ a σ){N:Lin}(s1:h1.s<a.nx)(t1:l1.s<a.nx)(s2:s.h.s<a.nx)(t2:s.l.s<a.nx)(n1:(e1.length:Int)=l1.v ρ)(n2:(e2.length:Int)=s.l.v ρ)(d1:∀e,e∈e1->D T (h1.v ρ) k1 e)(d2:∀e,e∈e2->D T (s.h.v ρ) s.k e)(h:zpl a bytes k1 h1 l1 s=some (k,H,N,a')):
  ∃ρ',More a.nx ρ a'.nx ρ'/\R T ρ' a' σ/\H.s<a'.nx/\N.s<a'.nx/\((e1.length+e2.length:Nat):Int)=N.v ρ'/\(∀e,e∈e1++e2->D T (H.v ρ') k e)/\dD (e1.length+e2.length) bytes=true/\a'.bx=a.bx:=by
 unfold zpl at h;split at h
 ·rename_i N' a1 hs;obtain ⟨ρ1,p1,p2,p3,p4⟩:=zg2 hr t1 t2 hs;split at h
  ·rename_i hroom;split at h
   ·rename_i k' H' a2 hj;cases h;have hN:((e1.length+e2.length:Nat):Int)=N.v ρ1:=by rw [p4];omega
    obtain ⟨ρ2,q1,q2,q3,q4,q5⟩:=zdK p2 (p1.lt s1) (p1.lt s2) (by rw [p1.lin t1];omega) (by rw [p1.lin t2];omega) (by rw [p1.lin s1]<;>grind) (by rw [p1.lin s2]<;>grind) hj;exact ⟨ρ2,p1.trans q1,q2,q3,q1.lt p3,by rw [q1.lin p3]<;>grind,q4,Ae p2.zero p2.F hroom hN,by grind[zg3]⟩
   grind
  grind
 grind
def zpk (own:Bool)(a:ASt)(sz bytes k1:Nat)(h1 l1:Lin)(x:AX)(s:Src):Option (List Out):=
 match zpl a bytes k1 h1 l1 s with
 |some (k,H,N,a')=>
  if own then
   if leL a.F (.k 1) s.l then some [(.bs a.bx.length (.k 0) N,{a' with bx:=a'.bx++[.row sz k H N]},⟨true,yV x,[a.bx.length]⟩)] else none
  else some [(.sl (some false) sz k H N,a',⟨false,yV x,[]⟩)]
 |none=>none
def zr6 (own:Bool)(a:ASt)(sz bytes:Nat)(y x:AX):Option (List Out):=match zpE a x with
 |none=>none
 |some s=>if Nat.beq s.sz sz then match y with
  |.sl (some true) sz0 k1 h1 l1=>if Nat.beq sz0 sz then
    (if own&&leL a.F s.l (.k 0)&&U6 a.F l1 bytes then some [(.sl (some true) sz k1 h1 l1,a,⟨true,yV x,[]⟩)] else zpk own a sz bytes k1 h1 l1 x s) else none
  |.x (.sl true sz0 [])=>if Nat.beq sz0 sz then
    (if own&&leL a.F s.l (.k 0)&&U6 a.F (.k 0) bytes then some [(.x (.sl true sz []),a,⟨true,yV x,[]⟩)] else zpk own a sz bytes 0 (.k 1) (.k 0) x s) else none
  |.bs i o l=>match a.bx[i]?,Xc o l with
   |some (.row sz0 k1 h1 rl),some e=>if Nat.beq sz0 sz&&eqL a.F e rl&&!sD i (yV x) then match zpl a bytes k1 h1 l s with
    |some (k,H,N,a')=>some [(.bs a.bx.length (.k 0) N,{a' with bx:=a'.bx.set i .dead++[.row sz k H N]},⟨true,yV x,[i,a.bx.length]⟩)]
    |none=>none else none
   |_,_=>none
  |_=>none else none
theorem zbA (hr:R T ρ a σ){es new:qaY}
  (s1:h1.s<a.nx) (t1:l1.s<a.nx) (s2:s.h.s<a.nx) (t2:s.l.s<a.nx) (n1:(es.length:Int)=l1.v ρ) (n2:(new.length:Int)=s.l.v ρ) (d1:∀e,e∈es->D T (h1.v ρ) k1 e) (d2:∀e,e∈new->D T (s.h.v ρ) s.k e)
  (e1:σ.ev oy=some (.sl true sz es)) (e2:σ.ev ox=some x) (hx:o8 σ.bx x=some (sz,new)) (hrows:x.rows=yV xa) (h:zpk own a sz bytes k1 h1 l1 xa s=some outs):dR T ρ a σ (.app own sz bytes oy ox) outs:=by
 unfold zpk at h;split at h
 ·rename_i k H N a' hk;obtain ⟨ρ',p1,p2,p3,p4,p5,p6,p7,p8⟩:=zbB hr s1 t1 s2 t2 n1 n2 d1 d2 hk;split at h
  ·rename_i ho;subst ho;split at h
   ·rename_i hne;cases h;have c:=aU hr.F hne;rw [Lin.k_v hr.zero] at c;have hemp:new.isEmpty=false:=by
     cases new with
     |nil=>grind
     |cons w r=>rfl
    refine ⟨_,qaa.2 rfl,ρ',.bs σ.bx.length 0 (es.length+new.length),σ.bx++[.row sz (es++new)],p1,⟨p2.zero,p2.pos,p2.F,p2.tm,p2.bx.snoc (.row p3 p4 (by grind) p6)⟩,?_,fun Γ=>?_⟩;·rw [hr.bx.len];exact .bs p2.pos p4 (by rw [Lin.k_v p2.zero];rfl) p5
    simp only [aG,e1,e2,hx,beq_self_eq_true,Bool.not_true,qaQ,if_false,p7,Bool.and_self,if_true,hemp];rw [hr.bx.len,hrows]
   grind
  rename_i ho;have ho:own=false:=by cases own with|true=>grind|false=>rfl
  subst ho;cases h;refine ⟨_,qaa.2 rfl,ρ',.sl false sz (es++new),σ.bx,p1,p2,.sl p3 p4 rfl (by rw [qau];exact p5) p6,fun Γ=>?_⟩<;>simp_all[aG]
 grind
theorem zk7 (hr:R T ρ a σ){u:X}(e1:σ.ev oy=some u)(e2:σ.ev ox=some x)(g1:G T a.nx ρ y u)(g2:G T a.nx ρ xa x)(h:zr6 own a sz bytes y xa=some outs):dR T ρ a σ (.app own sz bytes oy ox) outs:=by
 unfold zr6 at h;split at h;·cases h
 rename_i s hs;obtain ⟨new,w1,w2,w3,w4,w5,w6⟩:=zg7 hr g2 hs;split at h
 ·rename_i hsz;have hsz:=qai hsz;rw [hsz] at w1;split at h
  ·rename_i sz0 k1 h1 l1;split at h
   ·rename_i hz;have hz:=qai hz;subst hz;cases g1 with
    |sl q1 q2 q3 q4 q5=>
     rename_i tt es;cases q3;split at h;next hc=>cases h;simp at hc;obtain ⟨⟨ho,c1⟩,c2⟩:=hc;subst ho;have c:=aU hr.F c1;rw [Lin.k_v hr.zero] at c;have:new=[]:=qaM (by omega);subst this;have hroom:=Ae hr.zero hr.F c2 (m:=es.length) q4;refine .one hr (.sl q1 q2 rfl q4 q5) (fun Γ=>?_)<;>simp_all[aG]
     exact zbA hr q1 q2 w2 w3 q4 w4 q5 w5 e1 e2 w1 w6 h
   grind
  ·rename_i sz0;split at h
   ·rename_i hz;have hz:=qai hz;subst hz;cases g1;split at h;next hc=>cases h;simp at hc;obtain ⟨⟨ho,c1⟩,c2⟩:=hc;subst ho;have c:=aU hr.F c1;rw [Lin.k_v hr.zero] at c;have:new=[]:=qaM (by omega);subst this;have hroom:=Ae hr.zero hr.F c2 (m:=0) (by rw [Lin.k_v hr.zero];rfl);refine .one hr (.x rfl) (fun Γ=>?_)<;>simp_all[aG]
    exact zbA hr hr.pos hr.pos w2 w3 (by rw [Lin.k_v hr.zero];rfl) w4 (fun e he=>by grind) w5 e1 e2 w1 w6 h
   grind
  ·rename_i i o l;split at h
   ·rename_i sz0 k1 h1 rl e hb ha;split at h
    ·rename_i hc;simp only [qab] at hc;obtain ⟨⟨c1,c2⟩,c3⟩:=hc;have c1:=qai c1;subst c1;have c2:=Nr hr.F c2;rw [qg hr.zero ha] at c2;split at h
     ·rename_i k H N a' hk;cases h;cases g1 with
      |bs q1 q2 q3 q4=>
       rename_i off ln;obtain ⟨b,hb',hgb⟩:=hr.bx.get hb;cases hgb with
       |row r1 r2 r3 r4=>
        rename_i es;have hln:(es.drop off).length=ln:=by rw [qaL];omega
        obtain ⟨ρ',p1,p2,p3,p4,p5,p6,p7,p8⟩:=zbB hr (e1:=es.drop off) (e2:=new) r1 q2 w2 w3 (by grind) w4 (fun e he=>r4 e (List.mem_of_mem_drop he)) w5 hk;rw [hln] at p5 p7;have hoff:(off+ln==es.length)=true:=by rw [qaP];omega
        have hmem:(!sD i x.rows)=true:=by rw [w6];exact c3
        refine ⟨_,qaa.2 rfl,ρ',.bs σ.bx.length 0 (ln+new.length),σ.bx.set i .dead++[.row sz0 (es.drop off++new)],p1,⟨p2.zero,p2.pos,p2.F,p2.tm,(p2.bx.set i .dead).snoc (.row p3 p4 (by grind) p6)⟩,?_,fun Γ=>?_⟩;·rw [hr.bx.len];exact .bs p2.pos p4 (by rw [Lin.k_v p2.zero];rfl) p5
        simp only [aG,e1,e2,w1,beq_self_eq_true,Bool.not_true,qaQ,if_false,hb',hoff,p7,hmem,Bool.and_self,if_true];rw [hr.bx.len,w6]
     grind
    grind
   grind
  grind
 grind
end Go.Ab
namespace Go.Ab
open Go.Em
variable {a:ASt}{y:AX}{ok:Bool}{outs:List Out}{σ:St}{x:X}
variable {T:Tab} {n:Nat} {ρ:Rho}
def TK:AX->Option Value
 |.i k l=>if Nat.beq l.s 0 then some (.int k l.c) else none
 |.x (.v (.string s))=>some (.string s)
 |_=>none
theorem Ny (h0:ρ 0=0){v:Value}(hg:G T n ρ y x)(h:TK y=some v):x=.v v:=by
 unfold TK at h;split at h
 ·split at h;next k l hs=>cases h;cases hg<;>grind[Lin.v,qai]
  grind
 ·cases h;cases hg;rfl
 grind
def zaS (k:Value):List (Value×AX)->Nat->Option (Option (Nat×AX))
 |[],_=>some none
 |e::r,i=>match ng k e.1 with
  |some true=>some (some (i,e.2))
  |some false=>zaS k r (i+1)
  |none=>none
theorem wM {k:Value}:∀{l:List (Value×AX)} {m:List (Value×X)} {i:Nat} {r:Option (Nat×AX)},GM T n ρ l m->zaS k l i=some r->(r=none/\ji k m i=some none)\/∃j y x,r=some (j,y)/\ji k m i=some (some (j,x))/\G T n ρ y x
 |_,_,i,r,.nil,h=>by cases h;exact .inl ⟨rfl,rfl⟩
 |_,_,i,r,.cons (k:=kk) g1 g2,h=>by
  unfold zaS at h;unfold ji;dsimp only at h ⊢;split at h
  ·grind
  next e=>rw [e];exact wM g2 h
  grind
theorem GM.set:∀{l:List (Value×AX)} {m:List (Value×X)} {k:Value} {y:AX} {x:X} (i:Nat),GM T n ρ l m->G T n ρ y x->GM T n ρ (l.set i (k,y)) (m.set i (k,x))
 |_,_,_,_,_,_,.nil,_=>.nil
 |_,_,_,_,_,0,.cons _ h,g=>.cons g h
 |_,_,_,_,_,i+1,.cons h1 h,g=>.cons h1 (h.set i g)
theorem GM.snoc:∀{l:List (Value×AX)} {m:List (Value×X)} {k:Value} {y:AX} {x:X},GM T n ρ l m->G T n ρ y x->GM T n ρ (l++[(k,y)]) (m++[(k,x)])
 |_,_,_,_,_,.nil,g=>.cons g .nil
 |_,_,_,_,_,.cons h1 h,g=>.cons h1 (h.snoc g)
theorem GM.len:∀{l:List (Value×AX)} {m:List (Value×X)},GM T n ρ l m->l.length=m.length
 |_,_,.nil=>rfl
 |_,_,.cons _ h=>by rw [qaz,qaz,h.len]
def zpS (k:Value)(y:AX)(es:List (Value×AX)):Option (List (Value×AX)):=match zaS k es 0 with
 |some none=>some (es++[(k,y)])
 |some (some (i,_))=>some (es.set i (k,y))
 |none=>none
theorem zhJ {k:Value}{l r:List (Value×AX)}{m:List (Value×X)}(hm:GM T n ρ l m)(hg:G T n ρ y x)(h:zpS k y l=some r):∃w,Cb k x m=some w/\GM T n ρ r w:=by
 unfold zpS at h;split at h
 ·rename_i e;cases h;rcases wM hm e with ⟨_,h1⟩|⟨_,_,_,h1,_,_⟩;·exact ⟨_,by grind[Cb],hm.snoc hg⟩
  grind
 ·rename_i i y' e;cases h;rcases wM hm e with ⟨h1,_⟩|⟨j,_,_,h1,h2,_⟩
  ·grind
  cases h1;exact ⟨_,by grind[Cb],hm.set _ hg⟩
 grind
def zjv (ok:Bool)(y:AX)(b:Bool):AX:=if ok then .tup [y,cb b] else y
def zdJ (k:IntKind):List (Value×AX)->Bool
 |[]=>true
 |(.int k' _,_)::r=>decide (k'=k)&&zdJ k r
 |_=>false
def Vy (a:ASt)(ok:Bool)(l:Lin):List (Value×AX)->List Out
 |[]=>[]
 |(.int _ c,y)::r=>outOf (assume a [aj l (.k c),aj (.k c) l]) (zjv ok y true)++Vy a ok l r
 |_::r=>Vy a ok l r
def zh9 (a:ASt)(kk:KK)(ok:Bool)(zero:X)(m k:AX):Option (List Out):=match m with
 |.mp i=>match a.bx[i]? with
  |some (.map es)=>if X.bare zero then match TK k with
   |some v=>if sZ kk v then match zaS v es 0 with
    |some none=>some [(zjv ok (ofX zero) false,a,⟨false,[i],[]⟩)]
    |some (some (_,y))=>some [(zjv ok y true,a,⟨false,[i],[]⟩)]
    |none=>none else none
   |none=>match kk,k with
    |.int kd,.i kd' l=>if kd'=kd&&zdJ kd es then some ((Vy a ok l es++[(zjv ok (ofX zero) false,a,fp0)]).map fun o=>(o.1,o.2.1,⟨false,[i],[]⟩)) else none
    |_,_=>none else none
  |_=>none
 |_=>none
theorem JA {b:Bool}(hg:G T n ρ y x):G T n ρ (zjv ok y b) (if ok then .tup [x,.v (.bool b)] else x):=by
 unfold zjv;split;·exact .tup (.cons hg (.cons (zU b) .nil))
 grind
theorem SB {a:ASt}{σ:St}(hr:R T ρ a σ){ok:Bool}{l:Lin}{kd:IntKind}(hl:l.s<a.nx):∀{es:List (Value×AX)} {m:List (Value×X)} {i:Nat},GM T a.nx ρ es m->zdJ kd es=true->
  (ji (.int kd (l.v ρ)) m i=some none)\/∃j x,ji (.int kd (l.v ρ)) m i=some (some (j,x))/\∃o,o∈Vy a ok l es/\More a.nx ρ o.2.1.nx ρ/\R T ρ o.2.1 σ/\G T o.2.1.nx ρ o.1 (if ok then .tup [x,.v (.bool true)] else x)
 |_,_,i,.nil,_=>.inl rfl
 |(.int k' c,y)::r,(_,x)::m,i,.cons g1 g2,h=>by
  unfold zdJ at h;rw [qab,qaF] at h;obtain ⟨rfl,h2⟩:=h;unfold ji;have hks:ng (.int k' (l.v ρ)) (.int k' c)=some (l.v ρ==c):=by simp [ng]
  rw [hks];cases hb:(l.v ρ==c) with
  |true=>right;have he:=eq_of_beq hb;have hf:aX a.nx ρ [aj l (.k c),aj (.k c) l]:=aX.cons (aJ.2 ⟨hl,hr.pos,by rw [Lin.k_v hr.zero];omega⟩) (eY hr.pos hl (by rw [Lin.k_v hr.zero];omega));obtain ⟨a',h3,h4,h5⟩:=jY hr hf;have hm:More a.nx ρ a'.nx ρ:=⟨by omega,fun _ _=>rfl⟩;refine ⟨i,x,rfl,(zjv ok y true,a',fp0),?_,hm,h4,JA (g1.more hm)⟩;unfold Vy;rw [h3];exact List.mem_append_left _ (qaa.2 rfl)
  |false=>dsimp only;rcases SB (ok:=ok) hr hl (i:=i+1) g2 h2 with h3|⟨j,w,h3,o,ho,h4⟩<;>grind[Vy]
theorem zdv (hr:R T ρ a σ){kk:KK}{zero:X}{om okk:Opd}{z:AX}{m k:X}(e1:σ.ev om=some m)(e2:σ.ev okk=some k)(g1:G T a.nx ρ y m)(g2:G T a.nx ρ z k)(h:zh9 a kk ok zero y z=some outs):dR T ρ a σ (.zf1 kk ok zero om okk) outs:=by
 unfold zh9 at h;split at h
 ·rename_i i;cases g1;split at h
  ·rename_i es hb;obtain ⟨b,hb',hgb⟩:=hr.bx.get hb;cases hgb with
   |map hm=>
    rename_i es';split at h
    ·rename_i hz;have hzero:=Zg (T:=T) hr.zero hr.pos zero hz;split at h
     ·rename_i v hv;have:=Ny hr.zero g2 hv;subst this;split at h
      ·rename_i hk;split at h
       ·rename_i e;cases h;rcases wM hm e with ⟨_,h1⟩|⟨_,_,_,h1,_,_⟩;·exact .one hr (JA hzero) (fun Γ=>by simp_all[aG,qo])
        grind
       ·rename_i j y' e;cases h;rcases wM hm e with ⟨h1,_⟩|⟨_,_,_,h1,h2,h3⟩
        ·grind
        cases h1;exact .one hr (JA h3) (fun Γ=>by simp_all[aG,qo])
       grind
      grind
     split at h
     ·rename_i kd kd' l _;split at h
      ·rename_i hc;cases h;rw [qab,qaF] at hc;obtain ⟨rfl,hkeys⟩:=hc;cases g2 with
       |i q1 q2=>
        subst q2;have hok:sZ (.int kd') (.int kd' (l.v ρ))=true:=by simp [sZ]
        rcases SB (ok:=ok) hr q1 (i:=0) hm hkeys with h1|⟨j,w,h1,o,ho,p1,p2,p3⟩;·refine ⟨_,qal.2 ⟨_,List.mem_append_right _ (qaa.2 rfl),rfl⟩,ρ,_,σ.bx,.refl ..,hr,JA hzero,fun Γ=>?_⟩<;>simp_all[aG,qo]
        refine ⟨_,qal.2 ⟨o,List.mem_append_left _ ho,rfl⟩,ρ,_,σ.bx,p1,p2,p3,fun Γ=>?_⟩<;>simp_all[aG,qo]
      grind
     grind
    grind
  grind
 grind
def opA (T:Tab)(K:Names)(a:ASt)(i:I):Option (List Out):=match i with
 |.D8 len zero parts=>QW T K a len zero parts
 |.zfM neg x=>match a.ev x with
  |some y=>zg9 a neg y
  |none=>none
 |.s2b x=>match a.ev x with
  |some y=>zpJ T K a y
  |none=>none
 |.slice sz x lo hi mx=>match a.ev x with
  |some y=>Yd a sz y lo hi mx
  |none=>none
 |.tC x lo hi=>match a.ev x with
  |some y=>Yb a y lo hi
  |none=>none
 |.yg arr sz x j=>match a.ev x,a.ev j with
  |some y,some z=>ZQ T a arr sz y z
  |_,_=>none
 |.zlh len sz m x j=>match a.ev x,a.ev j with
  |some y,some z=>zlg a len sz m y z
  |_,_=>none
 |.zfO x j=>match a.ev x,a.ev j with
  |some y,some z=>zhd a y z
  |_,_=>none
 |.zf0 bytes zero x c=>match a.ev x,a.ev c with
  |some y,some z=>zh7 T K a bytes zero y z
  |_,_=>none
 |.app own sz bytes s x=>match a.ev s,a.ev x with
  |some y,some z=>zr6 own a sz bytes y z
  |_,_=>none
 |.Vt=>some [(.mp a.bx.length,{a with bx:=a.bx++[.map []]},⟨true,[],[a.bx.length]⟩)]
 |.zfZ kk m k v=>match a.ev m,a.ev k,a.ev v with
  |some (.mp i),some k,some y=>match a.bx[i]?,TK k,y.cells with
   |some (.map es),some kv,some _=>if sZ kk kv&&y.refs.isEmpty then (zpS kv y es).map fun es'=>[(Rn,{a with bx:=a.bx.set i (.map es')},⟨true,[],[i]⟩)] else none
   |_,_,_=>none
  |_,_,_=>none
 |.zf1 kk ok zero m k=>match a.ev m,a.ev k with
  |some y,some z=>zh9 a kk ok zero y z
  |_,_=>none
 |.zh6 m=>match a.ev m with
  |some (.mp i)=>match a.bx[i]? with
   |some (.map es)=>some [(.i .i64 (.k es.length),a,⟨false,[i],[]⟩)]
   |_=>none
  |_=>none
 |i=>opV T a i
theorem zm9 {K:Names}{i:I}(hr:R T ρ a σ)(h:opA T K a i=some outs):dR T ρ a σ i outs:=by
 unfold opA at h;split at h
 ·grind[WG]
 ·grind[cO,zcQ]
 ·grind[cO,zhi]
 ·grind[cO,Yc]
 ·grind[cO,Ya]
 ·grind[cO,ZP]
 ·grind[cO,zfj]
 ·grind[cO,zcU]
 ·grind[cO,zdu]
 ·grind[cO,zk7]
 ·cases h;refine ⟨_,qaa.2 rfl,ρ,.mp σ.bx.length,σ.bx++[.map []],.refl ..,⟨hr.zero,hr.pos,hr.F,hr.tm,hr.bx.snoc (.map .nil)⟩,?_,fun Γ=>?_⟩;·rw [hr.bx.len];exact .mp
  simp only [aG];rw [hr.bx.len]
 ·rename_i kk m k v;split at h
  ·rename_i i k' y e1 e2 e3;obtain ⟨xm,hm,gm⟩:=cO hr e1;obtain ⟨xk,hk,gk⟩:=cO hr e2;obtain ⟨xv,hv,gv⟩:=cO hr e3;cases gm;split at h
   ·rename_i es kv cs hb hc hcs;obtain ⟨b,hb',hgb⟩:=hr.bx.get hb;cases hgb with
    |map hmm=>
     have:=Ny hr.zero gk hc;subst this;split at h
     ·rename_i hok;obtain ⟨es',hp,rfl⟩:=qac.1 h;obtain ⟨w,hw,hgw⟩:=zhJ hmm gv hp;rw [qab] at hok;have h1:oh xv=true:=by unfold oh;rw [gv.refs];exact hok.2
      refine ⟨_,qaa.2 rfl,ρ,iY,σ.bx.set i (.map w),.refl ..,⟨hr.zero,hr.pos,hr.F,hr.tm,hr.bx.set i (.map hgw)⟩,.x rfl,fun Γ=>?_⟩;simp only [aG,hm,hk,hv,hb',hok.1,(cells_ok gv hcs).1,h1,Bool.and_self,if_true,hw,qao]
     grind
   grind
  grind
 ·grind[cO,zdv]
 ·split at h
  ·rename_i i e1;obtain ⟨xm,hm,gm⟩:=cO hr e1;cases gm;split at h
   ·rename_i es hb;cases h;obtain ⟨b,hb',hgb⟩:=hr.bx.get hb;cases hgb with
    |map hmm=>exact .one hr (.i hr.pos (by rw [Lin.k_v hr.zero,hmm.len])) (fun Γ=>by grind[aG])
   grind
  grind
 grind[zm7]
end Go.Ab
namespace Go.Ab
open Go.Em
variable {l p:Lin}
variable {T:Tab} {n m:Nat} {ρ ρ':Rho}
abbrev Sub:=Nat->Lin
variable {θ:Sub}
def Lin.sub (θ:Sub)(l:Lin):Lin:=(θ l.s).up l.c
def Fact.sub (θ:Sub)(f:Fact):Fact:=aj (θ f.x) ((θ f.y).up f.c)
def EX (m:Nat)(ρ:Rho)(n:Nat)(ρ':Rho)(θ:Sub):Prop:=∀s,s<m->(θ s).s<n/\(θ s).v ρ'=ρ s
theorem Lin.kN (h:EX m ρ n ρ' θ)(hl:l.s<m):(l.sub θ).s<n/\(l.sub θ).v ρ'=l.v ρ:=by obtain ⟨h1,h2⟩:=h l.s hl;exact ⟨h1,by unfold Lin.sub;rw [Lin.mQ,h2];rfl⟩
theorem Fact.zmh {f:Fact}(h:EX m ρ n ρ' θ)(hf:f.ok m ρ):(f.sub θ).ok n ρ':=by obtain ⟨h1,h2,h3⟩:=hf;obtain ⟨a1,a2⟩:=h _ h1;obtain ⟨b1,b2⟩:=h _ h2;exact aJ.2 ⟨a1,b1,by grind[Lin.mQ]⟩
theorem aX.sub {F:List Fact}(h:EX m ρ n ρ' θ)(hf:aX m ρ F):aX n ρ' (F.map (Fact.sub θ)):=fun f hm=>by obtain ⟨g,hg,rfl⟩:=qal.1 hm;exact Fact.zmh h (hf g hg)
mutual
def AX.sub (θ:Sub):AX->AX
 |.i k l=>.i k (l.sub θ)
 |.b t u=>.b (t.map (Fact.sub θ)) (u.map (Fact.sub θ))
 |.s l=>.s (l.sub θ)
 |.x x=>.x x
 |.sl t sz k h l=>.sl t sz k (h.sub θ) (l.sub θ)
 |.bs i a b=>.bs i (a.sub θ) (b.sub θ)
 |.ptr i a o=>.ptr i (a.sub θ) o
 |.dp cs=>.dp (Oi θ cs)
 |.fn f cs=>.fn f (Oi θ cs)
 |.agg cs=>.agg (Oi θ cs)
 |.tup cs=>.tup (Oi θ cs)
 |.yl i=>.yl i
 |.mp i=>.mp i
 |.tX=>.tX
 |.el k h=>.el k (h.sub θ)
 |.de k h=>.de k (h.sub θ)
def Oi (θ:Sub):List AX->List AX
 |[]=>[]
 |x::r=>x.sub θ::Oi θ r
end
mutual
theorem G.sub {θ:Sub}(h:EX m ρ n ρ' θ):∀{a:AX} {x:X},G T m ρ a x->G T n ρ' (a.sub θ) x
 |_,_,.i h1 h2=>.i (Lin.kN h h1).1 (by rw [(Lin.kN h h1).2]<;>grind)
 |_,_,.b h1 h2=>.b (fun e=>(h1 e).sub h) (fun e=>(h2 e).sub h)
 |_,_,.s h1 h2=>.s (Lin.kN h h1).1 (by rw [(Lin.kN h h1).2]<;>grind)
 |_,_,.x h1=>.x h1
 |_,_,.sl h1 h2 h3 h4 h5=>.sl (Lin.kN h h1).1 (Lin.kN h h2).1 h3 (by rw [(Lin.kN h h2).2]<;>grind) (by rw [(Lin.kN h h1).2]<;>grind)
 |_,_,.bs h1 h2 h3 h4=>.bs (Lin.kN h h1).1 (Lin.kN h h2).1 (by rw [(Lin.kN h h1).2]<;>grind) (by rw [(Lin.kN h h2).2]<;>grind)
 |_,_,.ptr h1 h2=>.ptr (Lin.kN h h1).1 (by rw [(Lin.kN h h1).2]<;>grind)
 |_,_,.dp h1=>.dp (GL.sub h h1)
 |_,_,.fn h1=>.fn (GL.sub h h1)
 |_,_,.agg h1=>.agg (GL.sub h h1)
 |_,_,.tup h1=>.tup (GL.sub h h1)
 |_,_,.yl=>.yl
 |_,_,.mp=>.mp
 |_,_,.ifc=>.ifc
 |_,_,.Gl=>.Gl
 |_,_,.el h1 h2=>.el (Lin.kN h h1).1 (by rw [(Lin.kN h h1).2]<;>grind)
 |_,_,.de h1 h2=>.de (Lin.kN h h1).1 (by rw [(Lin.kN h h1).2]<;>grind)
theorem GL.sub {θ:Sub}(h:EX m ρ n ρ' θ):∀{a:List AX} {x:List X},GL T m ρ a x->GL T n ρ' (Oi θ a) x
 |_,_,.nil=>.nil
 |_,_,.cons h1 h2=>.cons (G.sub h h1) (GL.sub h h2)
end
def ABx.sub (θ:Sub):ABx->ABx
 |.var cs=>.var (Oi θ cs)
 |.row s k h l=>.row s k (h.sub θ) (l.sub θ)
 |.loop st p tm ps a b=>.loop st p (tm.map fun q=>(q.1,q.2.sub θ)) ps a b
 |.map es=>.map (es.map fun q=>(q.1,q.2.sub θ))
 |.dead=>.dead
 |.el k h=>.el k (h.sub θ)
theorem GT.sub (h:EX m ρ n ρ' θ):∀{a:List (Nat×AX)} {x:List (Nat×X)},GT T m ρ a x->GT T n ρ' (a.map fun q=>(q.1,q.2.sub θ)) x
 |_,_,.nil=>.nil
 |_,_,.cons h1 h2=>.cons (h1.sub h) (h2.sub h)
theorem GM.sub (h:EX m ρ n ρ' θ):∀{a:List (Value×AX)} {x:List (Value×X)},GM T m ρ a x->GM T n ρ' (a.map fun q=>(q.1,q.2.sub θ)) x
 |_,_,.nil=>.nil
 |_,_,.cons h1 h2=>.cons (h1.sub h) (h2.sub h)
theorem GB.sub (h:EX m ρ n ρ' θ):∀{a:ABx} {x:Bx},GB T m ρ a x->GB T n ρ' (a.sub θ) x
 |_,_,.var h1=>.var (h1.sub h)
 |_,_,.row h1 h2 h3 h4=>.row (Lin.kN h h1).1 (Lin.kN h h2).1 (by rw [(Lin.kN h h2).2]<;>grind) (by rw [(Lin.kN h h1).2]<;>grind)
 |_,_,.loop h1=>.loop (h1.sub h)
 |_,_,.map h1=>.map (h1.sub h)
 |_,_,.dead=>.dead
 |_,_,.el h1 h2=>.el (Lin.kN h h1).1 (by rw [(Lin.kN h h1).2]<;>grind)
theorem GBs.sub (h:EX m ρ n ρ' θ):∀{a:List ABx} {x:List Bx},GBs T m ρ a x->GBs T n ρ' (a.map (ABx.sub θ)) x
 |_,_,.nil=>.nil
 |_,_,.cons h1 h2=>.cons (h1.sub h) (h2.sub h)
structure In where
 S:Nat->Nat->Bool
 F:List Fact
 θ:Sub
 m:Nat
variable {c:In}
def lEq (c:In)(l p:Lin):Bool:=Nat.blt p.s c.m&&eqL c.F l (p.sub c.θ)
def lLe (c:In)(l p:Lin):Bool:=Nat.blt p.s c.m&&leL c.F l (p.sub c.θ)
def Tq (t p:Option Bool):Bool:=match p with
 |none=>true
 |some b=>match t with
  |some c=>c==b
  |none=>false
def xEq:X->X->Bool
 |.v .nilFunc,.v .nilFunc=>true
 |.v .nilIface,.v .nilIface=>true
 |.v (.pointer none),.v (.pointer none)=>true
 |.v (.map none),.v (.map none)=>true
 |.v (.tuple ⟨[]⟩),.v (.tuple ⟨[]⟩)=>true
 |.ifc,.ifc=>true
 |.sl t s [],.sl t' s' []=>(t==t')&&Nat.beq s s'
 |.v (.string a),.v (.string b)=>decide (a=b)
 |_,_=>false
theorem Xr {x y:X}(h:xEq x y=true):x=y:=by
 unfold xEq at h;split at h<;>first
  |rfl
  |(rw [qab] at h;rw [eq_of_beq h.1,qai h.2])
  |(rw [of_decide_eq_true h])
  |cases h
mutual
def leX (c:In):AX->AX->Bool
 |.i k l,.i k' p=>decide (k=k')&&lEq c l p
 |.b _ _,.b [] []=>true
 |.b _ u,.b [] [g]=>(g==bot)&&u.any (fun f=>f==bot)
 |.b t u,.b [g] []=>(g==bot)&&!u.any (fun f=>f==bot)&&t.any (fun f=>f==bot)
 |.s l,.s p=>lEq c l p
 |.x (.v (.string bs)),.s p=>lEq c (.k bs.size) p
 |.sl t sz k h l,.sl t' sz' k' h' l'=>Tq t t'&&Nat.beq sz sz'&&Nat.blt h'.s c.m&&lEq c l l'&&(leL c.F l (.k 0)||(c.S k k'&&lLe c h h'))
 |.x (.sl t sz []),.sl t' sz' _ h' l'=>Tq (some t) t'&&Nat.beq sz sz'&&Nat.blt h'.s c.m&&lEq c (.k 0) l'
 |.x x,.x y=>xEq x y
 |.x x,.tX=>xEq x .ifc||xEq x (.v .nilIface)
 |.bs i o l,.bs i' o' l'=>Nat.beq i i'&&lEq c o o'&&lEq c l l'
 |.ptr i e o,.ptr i' e' o'=>Nat.beq i i'&&lEq c e e'&&Nat.beq o o'
 |.dp cs,.dp ps=>zdG c cs ps
 |.fn f cs,.fn g ps=>Nat.beq f g&&zdG c cs ps
 |.agg cs,.agg ps=>zdG c cs ps
 |.tup cs,.tup ps=>zdG c cs ps
 |.yl i,.yl j=>Nat.beq i j
 |.mp i,.mp j=>Nat.beq i j
 |.tX,.tX=>true
 |.el k h,.el k' h'=>c.S k k'&&lLe c h h'
 |_,_=>false
def zdG (c:In):List AX->List AX->Bool
 |[],[]=>true
 |a::l,b::r=>leX c a b&&zdG c l r
 |_,_=>false
end
def back (θ:Sub)(ρ:Rho):Rho:=fun s=>(θ s).v ρ
theorem oZ (θ:Sub)(ρ:Rho)(l:Lin):(l.sub θ).v ρ=l.v (back θ ρ):=by unfold Lin.sub back;rw [Lin.mQ];rfl
theorem wz (hF:aX n ρ c.F)(h:lEq c l p=true):p.s<c.m/\l.v ρ=p.v (back c.θ ρ):=by unfold lEq at h;rw [qab] at h;exact ⟨dX h.1,by rw [<-oZ]<;>grind[Nr]⟩
theorem SK (hF:aX n ρ c.F)(h:lLe c l p=true):p.s<c.m/\l.v ρ<=p.v (back c.θ ρ):=by unfold lLe at h;rw [qab] at h;exact ⟨dX h.1,by rw [<-oZ];exact aU hF h.2⟩
theorem Nc {t p:Option Bool}{b:Bool}(h:Tq t p=true)(hf:Dt t b):Dt p b:=by
 unfold Tq at h;split at h;·trivial
 grind
theorem zbE {n:Nat}{ρ:Rho}{fs:List Fact}(hb:fs.any (fun f=>f==bot)=true):¬aX n ρ fs:=fun hf=>by obtain ⟨f,h1,h2⟩:=List.any_eq_true.1 hb;have:=eq_of_beq h2;subst this;exact TV (fun g hg=>by rw [qaa.1 hg];exact hf _ h1)
mutual
theorem SH {c:In}(hS:SOk T c.S)(h0:ρ 0=0)(hF:aX n ρ c.F):∀{a p:AX} {x:X},leX c a p=true->G T n ρ a x->G T c.m (back c.θ ρ) p x:=by
 intro a p x h hg;unfold leX at h;split at h
 ·rw [qab,qaF] at h;obtain ⟨rfl,h2⟩:=h;obtain ⟨h3,h4⟩:=wz hF h2;cases hg with
  |i q1 q2=>exact .i h3 (by grind)
 ·cases hg;exact .b (fun _=>.nil) (fun _=>.nil)
 ·rw [qab] at h;cases hg with
  |b q1 q2=>
   rename_i t;cases t with
   |true=>exact .b (fun _=>.nil) (fun e=>by cases e)
   |false=>simp_all[zbE]
 ·simp only [qab] at h;cases hg with
  |b q1 q2=>
   rename_i t;cases t with
   |false=>exact .b (fun e=>by cases e) (fun _=>.nil)
   |true=>simp_all[zbE]
 ·obtain ⟨h3,h4⟩:=wz hF h;cases hg with
  |s q1 q2=>exact .s h3 (by grind)
 ·obtain ⟨h3,h4⟩:=wz hF h;cases hg;exact .s h3 (by grind[Lin.k_v])
 ·simp only [qab,Bool.or_eq_true] at h;obtain ⟨⟨⟨⟨e1,e2⟩,e3⟩,e4⟩,e5⟩:=h;have e2:=qai e2;subst e2;obtain ⟨h3,h4⟩:=wz hF e4;cases hg with
  |sl q1 q2 q3 q4 q5=>
   refine .sl (dX e3) h3 (Nc e1 q3) (by grind) fun e he=>?_;rcases e5 with e5|⟨e5,e6⟩;·have:=aU hF e5<;>grind[Lin.k_v]
   exact hS e5 (fU (SK hF e6).2 (q5 e he))
 ·simp only [qab] at h;obtain ⟨⟨⟨e1,e2⟩,e3⟩,e4⟩:=h;have e2:=qai e2;subst e2;obtain ⟨h3,h4⟩:=wz hF e4;cases hg;exact .sl (dX e3) h3 (Nc e1 rfl) (by grind[Lin.k_v]) (fun e he=>by grind)
 ·rw [<-Xr h];cases hg with
  |x q=>exact .x q
 ·rw [Bool.or_eq_true] at h;cases hg;rcases h with h|h;·rw [Xr h];exact .ifc
  rw [Xr h];exact .Gl
 ·simp only [qab] at h;obtain ⟨⟨e1,e2⟩,e3⟩:=h;have e1:=qai e1;subst e1;obtain ⟨a1,a2⟩:=wz hF e2;obtain ⟨b1,b2⟩:=wz hF e3;cases hg with
  |bs q1 q2 q3 q4=>exact .bs a1 b1 (by grind) (by grind)
 ·simp only [qab] at h;obtain ⟨⟨e1,e2⟩,e3⟩:=h;have e1:=qai e1;have e3:=qai e3;subst e1;subst e3;obtain ⟨a1,a2⟩:=wz hF e2;cases hg with
  |ptr q1 q2=>exact .ptr a1 (by grind)
 ·cases hg with|dp q=>exact .dp (uD hS h0 hF h q)
 ·rw [qab] at h;have e1:=qai h.1;subst e1;cases hg with|fn q=>exact .fn (uD hS h0 hF h.2 q)
 ·cases hg with|agg q=>exact .agg (uD hS h0 hF h q)
 ·cases hg with|tup q=>exact .tup (uD hS h0 hF h q)
 ·have e1:=qai h;subst e1;cases hg;exact .yl
 ·have e1:=qai h;subst e1;cases hg;exact .mp
 ·cases hg;·exact .ifc
  exact .Gl
 ·rw [qab] at h;have e2:=SK hF h.2;cases hg with|el q1 q2=>exact .el e2.1 (hS h.1 (fU e2.2 q2))
 grind
theorem uD {c:In}(hS:SOk T c.S)(h0:ρ 0=0)(hF:aX n ρ c.F):∀{a p:List AX} {x:List X},zdG c a p=true->GL T n ρ a x->GL T c.m (back c.θ ρ) p x
 |[],[],_,_,.nil=>.nil
 |a::l,b::r,_,h,.cons h1 h2=>by unfold zdG at h;rw [qab] at h;exact .cons (SH hS h0 hF h.1 h1) (uD hS h0 hF h.2 h2)
end
end Go.Ab
