/-.-/
import Derived.Test.YtcbeoccmflnejaaGreatDoorEmU11
set_option linter.all false
namespace Go.Ab
open Go.Em
section
variable {a:ASt}{r y:AX}{c:Ctr}{ext:Ext}{tab:FuncId->Option Fun}{bx:List ABx}{bxs:List Bx}{L:List Ctr}{K:Names}{S:Nat->Nat->Bool}{orc:Orc}{σ:St}{x:X}
variable {T:Tab} {n m:Nat} {ρ ρ':Rho} {Γ:Nat->Gam}
def zhl:Nat->List AX->List (Nat×AX)
 |_,[]=>[]
 |k,x::r=>(k,x)::zhl (k+1) r
theorem O5:∀{l:List AX} {m:List X} {k:Nat},GL T n ρ l m->GT T n ρ (zhl k l) (zipTm k m)
 |_,_,_,.nil=>.nil
 |_,_,_,.cons h1 h2=>.cons h1 (O5 h2)
def zdJ (a:ASt)(t:Nat)(k:Option Nat):Option AX:=match lkA a.tm t with
 |some (.ptr i e o)=>match a.bx[i]? with
  |some (.var cs)=>if UJ e then takeA k (cs.drop o) else none
  |_=>none
 |some (.dp cs)=>takeA k cs
 |_=>none
theorem YC (hr:R T ρ a σ){t:Nat}{k:Option Nat}(h:zdJ a t k=some y):∃x,(lk σ.tm t).bind (loadX σ k)=some x/\G T a.nx ρ y x:=by
 unfold zdJ at h;split at h
 ·rename_i i e o n;obtain ⟨x,q,l⟩:=gI hr.tm n;cases l with
  |ptr q1 q2=>
   rename_i w;split at h
   ·rename_i u A;split at h
    ·rename_i hz;obtain ⟨b,B,m⟩:=hr.bx.get A;cases m with
     |var hv=>
      rename_i F;have E:=l7 hz hr.zero;have:w=0:=by omega
      subst this;obtain ⟨z,j,f⟩:=uS (hv.drop o) h<;>grind[loadX,loadCs]
    grind
   grind
 ·rename_i u n;obtain ⟨x,q,l⟩:=gI hr.tm n;cases l with
  |dp hv=>obtain ⟨z,j,f⟩:=uS hv h;refine ⟨z,?_,f⟩;rw [q,Option.bind_some];exact j
 grind
def zfA (a:ASt):List Rv->Option (List AX)
 |[]=>some []
 |r::rs=>match (match r with|.tmp t=>lkA a.tm t|.cell t k=>zdJ a t k) with
  |none=>none
  |some x=>(zfA a rs).map (x::·)
theorem Qy {a:ASt}{σ:St}(hr:R T ρ a σ):∀{rs:List Rv} {ys:List AX},zfA a rs=some ys->∃xs,resX σ rs=some xs/\GL T a.nx ρ ys xs
 |[],ys,h=>by simp only [zfA,qah] at h;subst h;exact ⟨[],rfl,.nil⟩
 |r::rs,ys,h=>by
  unfold zfA at h;split at h;·cases h
  rename_i y hy;obtain ⟨ys',h1,rfl⟩:=qac.1 h;obtain ⟨xs,h2,h3⟩:=Qy hr h1;cases r with
  |tmp t=>obtain ⟨x,hx,hg⟩:=gI hr.tm hy;exact ⟨x::xs,by grind[resX],.cons hg h3⟩
  |cell t k=>obtain ⟨x,hx,hg⟩:=YC hr hy;exact ⟨x::xs,by grind[resX],.cons hg h3⟩
def KA:List AX->AX
 |[x]=>x
 |xs=>.tup xs
theorem Ic {l:List AX}{m:List X}(h:GL T n ρ l m):G T n ρ (KA l) (packRes m):=by
 cases h with
 |nil=>exact .tup .nil
 |cons h1 a=>
  cases a with
  |nil=>exact h1
  |cons h3 h4=>exact .tup (.cons h1 (.cons h3 h4))
def zbl (nIn:Nat)(y:AX)(bx:List ABx):Option (AX×List ABx):=
 let sel:=nT bx reachFuel (List.range nIn++y.refs) []
 if subN y.refs sel&&sel.take nIn==List.range nIn then (E5 bx sel).map fun b=>(y.ren (idxN · sel),b) else none
theorem Wn {nIn:Nat}{q:AX×List ABx}(hg:G T n ρ y x)(hb:GBs T n ρ bx bxs)(h:zbl nIn y bx=some q):∃z w,pack nIn x bxs=some (z,w)/\G T n ρ q.1 z/\GBs T n ρ q.2 w:=by
 unfold zbl at h;dsimp only at h;split at h;next f=>obtain ⟨p,j,rfl⟩:=qac.1 h;obtain ⟨w,l,a⟩:=wL hb j;refine ⟨_,w,?_,hg.ren _,a⟩;unfold pack;dsimp only;rw [hg.refs,ku hb,if_pos f,l];rfl
 grind
def zhO (S:Nat->Nat->Bool)(k:Nat)(a:ASt)(r:AX)(bx:List ABx)(o:Y2):Bool:=
 let acc:=GK bx o.bx (YM r o.r [])
 let c:In:=⟨S,a.F,dA k acc,o.m⟩
 Nat.ble k o.m&&Nat.ble k a.nx&&Nat.blt 0 k&&leX c r o.r&&zf3 c bx o.bx&&
  o.F.all (fun f=>Nat.blt f.x o.m&&Nat.blt f.y o.m&&leL a.F (dA k acc f.x) ((dA k acc f.y).up f.c))
theorem SQ (hS:SOk T S){k:Nat}{o:Y2}(hr:R T ρ a σ)(hg:G T a.nx ρ r x)(hb:GBs T a.nx ρ bx bxs)(h:zhO S k a r bx o=true):
  ∃ρo,More k ρ o.m ρo/\aV o.m ρo o.F/\G T o.m ρo o.r x/\GBs T o.m ρo o.bx bxs:=by
 unfold zhO at h;simp only [qab] at h;obtain ⟨⟨⟨⟨⟨B,J⟩,E⟩,n⟩,q⟩,u⟩:=h;generalize GK bx o.bx (YM r o.r [])=acc at n q u;have L:=cZ E;have j:∀s,s<k->back (dA k acc) ρ s=ρ s:=fun s M=>by simp_all[back,dA,Lin.v]
 refine ⟨back (dA k acc) ρ,⟨Nat.le_of_ble_eq_true B,j⟩,fun f H=>?_,KP (c:=⟨S,a.F,dA k acc,o.m⟩) hS hr.zero hr.F n hg,Ip (c:=⟨S,a.F,dA k acc,o.m⟩) hS hr.zero hr.F q hb⟩;have:=qas.1 u f H;simp only [qab] at this;obtain ⟨⟨w,y⟩,A⟩:=this;have l:=aO hr.F A;rw [Lin.jI] at l;exact ⟨cZ w,cZ y,l⟩
def zdv:ASt->List AX->List (ASt×List AX)
 |a,[]=>[(a,[])]
 |a,.b tf ff::r=>(match assume a tf with|some a'=>(zdv a' r).map (fun q=>(q.1,cb true::q.2))|none=>[])++
   (match assume a ff with|some a'=>(zdv a' r).map (fun q=>(q.1,cb false::q.2))|none=>[])
 |a,y::r=>(zdv a r).map (fun q=>(q.1,y::q.2))
theorem DR:∀{ys:List AX} {a:ASt} {σ:St} {xs:List X},R T ρ a σ->GL T a.nx ρ ys xs->∃q,q∈zdv a ys/\q.1.nx=a.nx/\R T ρ q.1 σ/\GL T a.nx ρ q.2 xs
 |[],a,σ,_,hr,.nil=>⟨(a,[]),qaa.2 rfl,rfl,hr,.nil⟩
 |y::r,a,σ,_,hr,.cons (x:=x) (m:=m) h1 h2=>by
  have plain:(∃q,q∈(zdv a r).map (fun q:ASt×List AX=>(q.1,y::q.2))/\q.1.nx=a.nx/\R T ρ q.1 σ/\GL T a.nx ρ q.2 (x::m)):=by obtain ⟨q,hq,e,k1,k2⟩:=DR hr h2;exact ⟨_,qam.2 ⟨q,hq,rfl⟩,e,k1,.cons h1 k2⟩
  unfold zdv;split
  ·grind
  ·rename_i tf ff r' heq;cases heq;cases h1 with
   |b g1 g2=>
    rename_i t;cases t with
    |true=>obtain ⟨a',e1,e2,e3⟩:=iE hr (g1 rfl);rw [e1];obtain ⟨q,hq,e,k1,k2⟩:=DR e2 (e3▸h2);exact ⟨_,List.mem_append_left _ (qam.2 ⟨q,hq,rfl⟩),e.trans e3,k1,.cons (uP true) (e3▸k2)⟩
    |false=>obtain ⟨a',e1,e2,e3⟩:=iE hr (g2 rfl);rw [e1];obtain ⟨q,hq,e,k1,k2⟩:=DR e2 (e3▸h2);exact ⟨_,List.mem_append_right _ (qam.2 ⟨q,hq,rfl⟩),e.trans e3,k1,.cons (uP false) (e3▸k2)⟩
  grind
def ziR:List ABx->List Lin
 |[]=>[]
 |.row _ _ h _::r=>h::ziR r
 |_::r=>ziR r
mutual
def upX (F:List Fact)(H:Lin):AX->AX
 |.sl t sz k h l=>.sl t sz k (if leL F h H then H else h) l
 |.agg cs=>.agg (upL F H cs)
 |.tup cs=>.tup (upL F H cs)
 |a=>a
def upL (F:List Fact)(H:Lin):List AX->List AX
 |[]=>[]
 |a::r=>upX F H a::upL F H r
end
def upB (F:List Fact)(H:Lin):ABx->ABx
 |.row sz k h l=>.row sz k (if leL F h H then H else h) l
 |b=>b
mutual
theorem Zj {F:List Fact}{H:Lin}(hF:aV n ρ F)(hH:H.s<n):∀{a:AX} {x:X},G T n ρ a x->G T n ρ (upX F H a) x:=by
 intro a x f;unfold upX;split
 ·cases f with
  |sl h1 h2 h3 h4 h5=>
   split;next h=>exact .sl hH h2 h3 h4 fun e j=>iF (aO hF h) (h5 e j)
   exact .sl h1 h2 h3 h4 h5
 ·cases f with|agg h1=>exact .agg (Pm hF hH h1)
 ·cases f with|tup h1=>exact .tup (Pm hF hH h1)
 grind
theorem Pm {F:List Fact}{H:Lin}(hF:aV n ρ F)(hH:H.s<n):∀{a:List AX} {x:List X},GL T n ρ a x->GL T n ρ (upL F H a) x
 |[],_,.nil=>.nil
 |a::r,_,.cons h1 h2=>.cons (Zj hF hH h1) (Pm hF hH h2)
end
theorem Zk {F:List Fact}{H:Lin}(hF:aV n ρ F)(hH:H.s<n):∀{a:List ABx} {x:List Bx},GBs T n ρ a x->GBs T n ρ (a.map (upB F H)) x
 |[],_,.nil=>.nil
 |a::r,_,.cons h1 h2=>by
  refine .cons ?_ (Zk hF hH h2);unfold upB;split
  ·cases h1 with
   |row q1 q2 q3 q4=>
    split;next hc=>exact .row hH q2 q3 fun e he=>iF (aO hF hc) (q4 e he)
    exact .row q1 q2 q3 q4
  grind
def zbA (a:ASt)(r:AX)(bx:List ABx):Option (ASt×AX×List ABx):=match ziP r++ziR bx with
 |h::t=>match maxes a t h with
  |some (H,a')=>if Nat.blt H.s a'.nx then some (a',upX a'.F H r,bx.map (upB a'.F H)) else none
  |none=>none
 |[]=>none
theorem WU {q:ASt×AX×List ABx}(hr:R T ρ a σ)(hg:G T a.nx ρ r x)(hb:GBs T a.nx ρ bx bxs)(h:zbA a r bx=some q):
  ∃ρ',More a.nx ρ q.1.nx ρ'/\R T ρ' q.1 σ/\G T q.1.nx ρ' q.2.1 x/\GBs T q.1.nx ρ' q.2.2 bxs:=by
 unfold zbA at h;split at h
 ·split at h
  ·rename_i H n m;split at h;next l=>cases h;obtain ⟨ρ',f,j⟩:=Cm hr m;exact ⟨ρ',f,j,Zj j.F (cZ l) (hg.more f),Zk j.F (cZ l) (hb.more f)⟩
   grind
  grind
 grind
def zdh (S:Nat->Nat->Bool)(c:Ctr)(a:ASt)(r:AX)(bx:List ABx):Bool:=(c.outs.any fun o=>zhO S c.m a r bx o)||match zbA a r bx with
 |some q=>c.outs.any fun o=>zhO S c.m q.1 q.2.1 q.2.2 o
 |none=>false
theorem X5 (hS:SOk T S)(hr:R T ρ a σ)(hg:G T a.nx ρ r x)(hb:GBs T a.nx ρ bx bxs)(hk:c.m<=a.nx)(h:zdh S c a r bx=true):
  ∃o,o∈c.outs/\∃ρo,More c.m ρ o.m ρo/\aV o.m ρo o.F/\G T o.m ρo o.r x/\GBs T o.m ρo o.bx bxs:=by
 unfold zdh at h;rw [Bool.or_eq_true] at h;rcases h with h|h
 ·grind[SQ]
 split at h;next q E=>obtain ⟨ρ1,H,J,w,l⟩:=WU hr hg hb E;obtain ⟨o,B,A⟩:=List.any_eq_true.1 h;obtain ⟨ρo,j,u,y,n⟩:=SQ hS J w l A;exact ⟨o,B,ρo,⟨j.le,fun s f=>by rw [j.same s f,H.same s (Nat.lt_of_lt_of_le f hk)]⟩,u,y,n⟩
 grind
def AP (tab:FuncId->Option Fun)(x:Cx)(orc:Orc)(c:Ctr):Bool:=match tab c.f with
 |none=>false
 |some fd=>(c.args.length==fd.np)&&Nat.blt 0 c.m&&c.alts.all fun p=>match Ec x orc c.inb.length fd.body (Zy c.m) ⟨c.m,p++c.pre,zhl 0 c.args,c.inb⟩ with
  |none=>false
  |some outs=>outs.all fun q=>(match q.1 with|.norm|.ret=>true|_=>false)&&match zfA q.2 fd.res with
   |none=>false
   |some ys=>(zdv q.2 ys).all fun w=>match zbl c.inb.length (KA w.2) w.1.bx with
    |none=>false
    |some (r,bx)=>zdh (kle x.T) c w.1 r bx
theorem JH {x:Cx}(he:ext c.f=none)(h:AP tab x orc c=true){ρ:Rho}{args:List X}{inb:List Bx}(hs:c.Sat x.T ρ args inb)(hx:GZ (callF tab ext) x c.m ρ):c.Res x.T (callF tab ext) ρ args inb:=by
 unfold AP at h;split at h;·cases h
 rename_i fd u;simp only [qab] at h;obtain ⟨⟨h1,h2⟩,l⟩:=h;obtain ⟨p,H,J⟩:=hs.alts;have l:=qas.1 l p H;split at l
 ·grind
 rename_i outs Z;have hr:R x.T ρ ⟨c.m,p++c.pre,zhl 0 c.args,c.inb⟩ ⟨zipTm 0 args,inb⟩:=⟨hs.zero,hs.pos,J.append hs.pre,O5 hs.args,hs.inb⟩;obtain ⟨q,hq,ρ1,σ1,S,U,B,k3⟩:=ou (Γ:=callF tab ext) hx hr Z;have n:=qas.1 l q hq;rw [qab] at n;obtain ⟨n,a⟩:=n;split at a
 ·grind
 rename_i ys L;obtain ⟨xs,pa,A⟩:=Qy U L;obtain ⟨w,hw,O,V,P⟩:=DR U A;have a:=qas.1 a w hw;split at a
 ·grind
 rename_i r bx H;rw [<-O] at P;obtain ⟨z,v,hz,E,y⟩:=Wn (Ic P) V.bx H;obtain ⟨o,F,ρo,W,m2,m3,m4⟩:=X5 (sok x.T) V E y (by rw [O];exact S.le) a;have Q:=hs.inb.len;have Y:=hs.args.len;refine ⟨o,F,ρo,z,v,⟨W.le,fun s j=>by rw [W.same s j,S.same s j]⟩,m2,m3,m4,B+1,fun N hN=>?_⟩;obtain ⟨M,rfl⟩:=pR_ N;have h6:=k3 M (by omega);unfold callF;rw [he];dsimp only;rw [u];dsimp only;unfold runF
 grind
def aB (T:Tab)(Γ:Nat->Gam)(L:List Ctr):Prop:=∀c,c∈L->c.Holds T Γ
theorem Xw {T:Tab}(hL:aB T (callF tab ext) L)(he:ext c.f=none)(h:AP tab ⟨T,K,L,[],none,0⟩ orc c=true):c.Holds T (callF tab ext):=fun _ _ _ a=>JH (x:=⟨T,K,L,[],none,0⟩) he h a ⟨hL,fun l j=>by grind⟩
def Gy (c:Ctr):Bool:=match c.mu with
 |some l=>Nat.blt l.s c.m&&leL c.pre (.k 0) l
 |none=>false
theorem Oe {T:Tab}{G:List Ctr}(hL:aB T (callF tab ext) L)(he:∀c,c∈G->ext c.f=none)(hm:G.all Gy=true)(h:G.all (fun c=>AP tab ⟨T,K,L,G,c.mu,c.rank⟩ orc c)=true):aB T (callF tab ext) G:=by
 have A:∀(d:Nat),∀c,c∈G->c.Below T (callF tab ext) d:=by
  intro d;induction d with
  |zero=>intro c m ρ j q w ⟨l,u,y,h3⟩<;>grind
  |succ d ih=>intro c m ρ j q w ⟨l,u,y,h3⟩;have a:=qas.1 hm c m;unfold Gy at a;rw [u] at a;rw [qab] at a;refine JH (x:=⟨T,K,L,G,c.mu,c.rank⟩) (he c m) (qas.1 h c m) w ⟨hL,fun B n=>?_⟩;dsimp only at n;rw [u] at n;cases n;refine ⟨cZ a.1,fun c' hc' ρ' args' inb' hs' ⟨l2,k1,k2,k3⟩=>ih c' hc' ρ' args' inb' hs' ⟨l2,k1,k2,by grind⟩⟩
 intro c m ρ j q w;have a:=qas.1 hm c m;unfold Gy at a;cases u:c.mu with
 |none=>grind
 |some l=>rw [u] at a;rw [qab] at a;have y:=aO w.pre a.2;rw [Lin.k_v w.zero] at y;exact A ((16*l.v ρ+c.rank).toNat+1) c m ρ j q w ⟨l,u,y,by omega⟩
theorem aB.append {M:List Ctr}(h:aB T Γ L)(h':aB T Γ M):aB T Γ (L++M):=fun c a=>(qaO.1 a).elim (h c) (h' c)
end
mutual
def AX.zbz:AX->List Lin
 |.i _ l=>[l]
 |.s l=>[l]
 |.sl _ _ _ h l=>[h,l]
 |.bs _ a b=>[a,b]
 |.ptr _ e _=>[e]
 |.dp cs=>NZ cs
 |.fn _ cs=>NZ cs
 |.agg cs=>NZ cs
 |.tup cs=>NZ cs
 |.el _ h=>[h]
 |.de _ h=>[h]
 |.b _ _|.x _|.yl _|.mp _|.nX=>[]
def NZ:List AX->List Lin
 |[]=>[]
 |x::r=>x.zbz++NZ r
end
def zby:List (Nat×AX)->List Lin
 |[]=>[]
 |p::r=>p.2.zbz++zby r
def zf0:List (Value×AX)->List Lin
 |[]=>[]
 |p::r=>p.2.zbz++zf0 r
def ABx.zbz:ABx->List Lin
 |.var cs=>NZ cs
 |.row _ _ h l=>[h,l]
 |.loop _ _ tm _ _ _=>zby tm
 |.map es=>zf0 es
 |.el _ h=>[h]
 |.dead=>[]
def zf1:List ABx->List Lin
 |[]=>[]
 |x::r=>x.zbz++zf1 r
def ASt.zbz (a:ASt):List Lin:=zby a.tm++zf1 a.bx
def keysT:List (Nat×AX)->List Nat
 |[]=>[]
 |p::r=>p.1::keysT r
def eqN:List Nat->List Nat->Bool
 |[],[]=>true
 |a::l,b::r=>Nat.beq a b&&eqN l r
 |_,_=>false
structure Found where
 keys:List Nat
 make:(Nat->Lin)->Nat->Nat×List Fact×List (Nat×AX)×List ABx×Mu
def Found.at (q:Found)(a:ASt):ASt×Mu:=
 let l:=a.zbz
 match q.make (fun k=>l.getD k default) a.nx with
 |(nx,F,tm,bx,mu)=>(⟨nx,F++a.F,tm,bx⟩,mu)
def pU (l:List Found):Orc:=fun _ a=>l.findSome? fun q=>if eqN q.keys (keysT a.tm) then
 (let r:=q.at a;if zex (fun k j=>Nat.beq k j||Zp k j) a.nx (uD a r.1) a r.1 then some r else none) else none
inductive Sh where
 |i (k:IntKind)
 |ir (k:IntKind) (lo hi:Int)
 |k (k:IntKind) (c:Int)
 |b
 |s
 |sr (lo hi:Int)
 |sl (sz k:Nat)
 |slr (sz k:Nat) (lo hi:Int)
 |slh (sz k:Nat)
 |zG (sz k:Nat) (lo hi:Int)
 |rc (l:List Sh)
 |rcb (lo hi:Int) (l:List Sh)
 |rcs (h:Nat) (l:List Sh)
 |kb (b:Bool)
 |ag (l:List Sh)
 |tu (l:List Sh)
 |x (x:X)
 |oi
 |p (i:Nat)
 |mp (i:Nat)
 |bs (i:Nat)
 |bsr (i:Nat) (lo hi:Int)
 |dp (l:List Sh)
 |fn (f:FuncId) (l:List Sh)
 |el (k:Nat)
 deriving Inhabited
def dW:Int:=1000000
abbrev Bld:=AX×Nat×List Fact
mutual
def Sh.bld (h:Lin)(n:Nat):Sh->Bld
 |.i k=>(.i k ⟨n,0⟩,n+1,[])
 |.ir k lo hi=>(.i k ⟨n,0⟩,n+1,bnd ⟨n,0⟩ (some lo) (some hi))
 |.k k c=>(.i k (.k c),n,[])
 |.b=>(.b [] [],n,[])
 |.s=>(.s ⟨n,0⟩,n+1,bnd ⟨n,0⟩ (some 0) (some dW))
 |.sr lo hi=>(.s ⟨n,0⟩,n+1,bnd ⟨n,0⟩ (some lo) (some hi))
 |.sl sz k=>(.sl none sz k ⟨n,0⟩ ⟨n+1,0⟩,n+2,au (.k 0) ⟨n,0⟩::bnd ⟨n+1,0⟩ (some 0) (some dW))
 |.slr sz k lo hi=>(.sl none sz k ⟨n,0⟩ ⟨n+1,0⟩,n+2,au (.k 0) ⟨n,0⟩::bnd ⟨n+1,0⟩ (some lo) (some hi))
 |.slh sz k=>(.sl none sz k h ⟨n,0⟩,n+1,bnd ⟨n,0⟩ (some 0) (some dW))
 |.zG sz k lo hi=>(.sl none sz k h ⟨n,0⟩,n+1,bnd ⟨n,0⟩ (some lo) (some hi))
 |.rc l=>match qK ⟨n,0⟩ (n+1) l with|(cs,m,F)=>(.agg cs,m,au (.k 0) ⟨n,0⟩::F)
 |.rcb lo hi l=>match qK ⟨n,0⟩ (n+1) l with|(cs,m,F)=>(.agg cs,m,bnd ⟨n,0⟩ (some lo) (some hi)++F)
 |.ag l=>match qK h n l with|(cs,m,F)=>(.agg cs,m,F)
 |.rcs s l=>match qK ⟨s,0⟩ n l with|(cs,m,F)=>(.agg cs,m,F)
 |.kb b=>(cb b,n,[])
 |.tu l=>match qK h n l with|(cs,m,F)=>(.tup cs,m,F)
 |.x x=>(.x x,n,[])
 |.oi=>(.nX,n,[])
 |.p i=>(.ptr i (.k 0) 0,n,[])
 |.mp i=>(.mp i,n,[])
 |.bs i=>(.bs i (.k 0) ⟨n,0⟩,n+1,bnd ⟨n,0⟩ (some 0) (some dW))
 |.bsr i lo hi=>(.bs i (.k 0) ⟨n,0⟩,n+1,bnd ⟨n,0⟩ (some lo) (some hi))
 |.dp l=>match qK h n l with|(cs,m,F)=>(.dp cs,m,F)
 |.fn f l=>match qK h n l with|(cs,m,F)=>(.fn f cs,m,F)
 |.el k=>(.el k ⟨n,0⟩,n+1,[au (.k 0) ⟨n,0⟩])
def qK (h:Lin)(n:Nat):List Sh->List AX×Nat×List Fact
 |[]=>([],n,[])
 |t::r=>match t.bld h n with
  |(a,n',F)=>match qK h n' r with
   |(l,n'',F')=>(a::l,n'',F++F')
end
inductive BSh where
 |var (l:List Sh)
 |rcv (l:List Sh)
 |jD (lo hi:Int) (l:List Sh)
 |row (sz k:Nat)
 |zfp (sz k:Nat) (hi:Int)
 |OX (sz k h l:Nat)
 |map (es:List (Value×X))
 |dead
 deriving Inhabited
def uz (n:Nat):List BSh->List ABx×Nat×List Fact
 |[]=>([],n,[])
 |.var l::r=>match qK (.k 0) n l with
  |(cs,n',F)=>match uz n' r with
   |(bs,n'',F')=>(.var cs::bs,n'',F++F')
 |.rcv l::r=>match qK ⟨n,0⟩ (n+1) l with
  |(cs,n',F)=>match uz n' r with
   |(bs,n'',F')=>(.var cs::bs,n'',au (.k 0) ⟨n,0⟩::(F++F'))
 |.jD lo hi l::r=>match qK ⟨n,0⟩ (n+1) l with
  |(cs,n',F)=>match uz n' r with
   |(bs,n'',F')=>(.var cs::bs,n'',bnd ⟨n,0⟩ (some lo) (some hi)++(F++F'))
 |.map es::r=>match uz n r with
  |(bs,n'',F')=>(.map (es.map fun q=>(q.1,ofX q.2))::bs,n'',F')
 |.OX sz k h l::r=>match uz n r with
  |(bs,n'',F')=>(.row sz k ⟨h,0⟩ ⟨l,0⟩::bs,n'',F')
 |.dead::r=>match uz n r with
  |(bs,n'',F')=>(.dead::bs,n'',F')
 |.zfp sz k hi::r=>match uz (n+2) r with
  |(bs,n'',F')=>(.row sz k ⟨n,0⟩ ⟨n+1,0⟩::bs,n'',au (.k 0) ⟨n,0⟩::(bnd ⟨n+1,0⟩ (some 0) (some hi)++F'))
 |.row sz k::r=>match uz (n+2) r with
  |(bs,n'',F')=>(.row sz k ⟨n,0⟩ ⟨n+1,0⟩::bs,n'',au (.k 0) ⟨n,0⟩::(bnd ⟨n+1,0⟩ (some 0) (some dW)++F'))
def Wu (m:Nat)(o:Sh×List BSh):Y2:=match o.1.bld (.k 0) m with
 |(r,n,F)=>match uz n o.2 with
  |(bs,n',F')=>⟨n',F++F',r,bs⟩
def mkC (f:FuncId)(args:List Sh)(inb:List BSh)(mu:Option (Nat×Nat))(outs:List (Sh×List BSh)):Ctr:=match qK (.k 0) 1 args with
 |(as,n,F)=>match uz n inb with
  |(bs,n',F')=>⟨f,n',as,bs,F++F',mu.map fun s=>⟨s.1,0⟩,outs.map (Wu n'),(mu.map (·.2)).getD 0,[[]]⟩
def dF (f:FuncId)(args:List Sh)(inb:List BSh)(mu:Option (Nat×Nat))(outs:List (Sh×List BSh×List Fact)):Ctr:=
 let c:=mkC f args inb mu (outs.map fun o=>(o.1,o.2.1))
 {c with outs:=(c.outs.zip outs).map fun q=>{q.1 with F:=q.2.2.2++q.1.F}}
def Ctr.with (c:Ctr)(l:List (List Fact)):Ctr:={c with alts:=l}
def bd (s:Nat)(lo hi:Int):List Fact:=[au (.k lo) ⟨s,0⟩,au ⟨s,0⟩ (.k hi)]
def lt (s:Nat)(c:Int)(t:Nat):Fact:=au ⟨s,c⟩ ⟨t,0⟩
section
variable {f:FuncId}{hi lo z:Int}{l:Lin}{outs:List (Sh×List BSh)}{inb:List BSh}{bx:List Bx}{F F':List Fact}{args:List Sh}{xs:List X}{Γ:Nat->Gam}{mu:Option (Nat×Nat)}
variable {T:Tab} {n m:Nat} {ρ ρ':Rho}
mutual
def Sh.Is (T:Tab)(h:Int):Sh->X->Prop
 |.i k,x=>∃z,x=.v (.int k z)
 |.ir k lo hi,x=>∃z,x=.v (.int k z)/\lo<=z/\z<=hi
 |.k k c,x=>x=.v (.int k c)
 |.b,x=>∃b,x=.v (.bool b)
 |.s,x=>∃bs,x=.v (.string bs)/\(bs.size:Int)<=dW
 |.sr lo hi,x=>∃bs,x=.v (.string bs)/\lo<=(bs.size:Int)/\(bs.size:Int)<=hi
 |.sl sz k,x=>∃t es h',x=.sl t sz es/\0<=h'/\(es.length:Int)<=dW/\∀e,e∈es->D T h' k e
 |.slr sz k lo hi,x=>∃t es h',x=.sl t sz es/\0<=h'/\lo<=(es.length:Int)/\(es.length:Int)<=hi/\∀e,e∈es->D T h' k e
 |.slh sz k,x=>∃t es,x=.sl t sz es/\(es.length:Int)<=dW/\∀e,e∈es->D T h k e
 |.zG sz k lo hi,x=>∃t es,x=.sl t sz es/\lo<=(es.length:Int)/\(es.length:Int)<=hi/\∀e,e∈es->D T h k e
 |.rc l,x=>∃h' xs,x=.agg xs/\0<=h'/\IsL T h' l xs
 |.rcb lo hi l,x=>∃h' xs,x=.agg xs/\lo<=h'/\h'<=hi/\IsL T h' l xs
 |.rcs _ l,x=>∃h' xs,x=.agg xs/\IsL T h' l xs
 |.kb b,x=>x=.v (.bool b)
 |.ag l,x=>∃xs,x=.agg xs/\IsL T h l xs
 |.tu l,x=>∃xs,x=.tup xs/\IsL T h l xs
 |.x y,x=>x=y/\y.refs=[]
 |.oi,x=>x=.ifc\/x=.v .nilIface
 |.p i,x=>x=.ptr i 0 0
 |.mp i,x=>x=.mp i
 |.bs i,x=>∃l,x=.bs i 0 l/\(l:Int)<=dW
 |.bsr i lo hi,x=>∃l,x=.bs i 0 l/\lo<=(l:Int)/\(l:Int)<=hi
 |.dp l,x=>∃xs,x=.dp xs/\IsL T h l xs
 |.fn f l,x=>∃xs,x=.fn f xs/\IsL T h l xs
 |.el k,x=>∃xs h',x=.agg xs/\0<=h'/\D T h' k xs
def IsL (T:Tab)(h:Int):List Sh->List X->Prop
 |[],[]=>True
 |t::ts,x::xs=>t.Is T h x/\IsL T h ts xs
 |_,_=>False
end
mutual
def Sh.own:Sh->Bool
 |.rcs _ _=>false
 |.rc l=>BX l
 |.rcb _ _ l=>BX l
 |.ag l=>BX l
 |.tu l=>BX l
 |.dp l=>BX l
 |.fn _ l=>BX l
 |_=>true
def BX:List Sh->Bool
 |[]=>true
 |t::r=>t.own&&BX r
end
def lu (ρ:Rho)(n:Nat)(z:Int):Rho:=fun s=>if s=n then z else ρ s
theorem aY (ρ:Rho)(n:Nat)(z:Int):More n ρ (n+1) (lu ρ n z):=⟨Nat.le_succ _,fun s a=>by unfold lu;grind⟩
theorem bP (ρ:Rho)(n:Nat)(z:Int):(Lin.v ⟨n,0⟩ (lu ρ n z))=z:=by simp_all[Lin.v,lu]
theorem More.zero {ρ ρ':Rho}{n n':Nat}(h:More n ρ n' ρ')(hn:0<n)(h0:ρ 0=0):ρ' 0=0:=by rw [h.same 0 hn,h0]
def Fwd (T:Tab)(ρ:Rho)(n:Nat)(q:Bld)(x:X):Prop:=∃ρ',More n ρ q.2.1 ρ'/\aV q.2.1 ρ' q.2.2/\G T q.2.1 ρ' q.1 x
def zpI (T:Tab)(ρ:Rho)(n:Nat)(q:List AX×Nat×List Fact)(xs:List X):Prop:=∃ρ',More n ρ q.2.1 ρ'/\aV q.2.1 ρ' q.2.2/\GL T q.2.1 ρ' q.1 xs
theorem iw {n:Nat}{ρ:Rho}(h0:ρ 0=0)(hn:0<n)(h1:lo<=z)(h2:z<=hi):aV (n+1) (lu ρ n z) (bnd ⟨n,0⟩ (some lo) (some hi)):=
 qH ((aY ρ n z).zero hn h0) (Nat.succ_pos _) (qaf _) (fun a e=>by grind[bP]) (fun b e=>by grind[bP])
theorem gV {n:Nat}{ρ:Rho}(h0:ρ 0=0)(hn:0<n)(h1:0<=z):(au (.k 0) ⟨n,0⟩).ok (n+1) (lu ρ n z):=
 aF.2 ⟨Nat.succ_pos _,qaf _,by rw [bP,Lin.k_v ((aY ρ n z).zero hn h0)]<;>grind⟩
mutual
theorem Sh.fwd:∀(t:Sh) {h:Lin} {n:Nat} {ρ:Rho} {x:X},t.own=true->0<n->ρ 0=0->h.s<n->t.Is T (h.v ρ) x->Fwd T ρ n (t.bld h n) x
 |.i k,h,n,ρ,_,_,hn,h0,_,⟨z,rfl⟩=>⟨lu ρ n z,aY ρ n z,.nil,.i (qaf _) (bP ρ n z).symm⟩
 |.ir k lo hi,h,n,ρ,_,_,hn,h0,_,⟨z,rfl,h1,h2⟩=>⟨lu ρ n z,aY ρ n z,iw h0 hn h1 h2,.i (qaf _) (bP ρ n z).symm⟩
 |.k k c,h,n,ρ,x,_,hn,h0,_,hx=>by have hx:x=.v (.int k c):=hx;subst hx;exact ⟨ρ,.refl _ _,.nil,.i hn (Lin.k_v h0 c).symm⟩
 |.b,h,n,ρ,_,_,hn,h0,_,⟨b,rfl⟩=>⟨ρ,.refl _ _,.nil,.b (fun _=>.nil) (fun _=>.nil)⟩
 |.s,h,n,ρ,_,_,hn,h0,_,⟨bs,rfl,h1⟩=>⟨lu ρ n bs.size,aY _ _ _,iw h0 hn (by omega) h1,.s (qaf _) (bP ρ n _).symm⟩
 |.sr lo hi,h,n,ρ,_,_,hn,h0,_,⟨bs,rfl,h1,h2⟩=>⟨lu ρ n bs.size,aY _ _ _,iw h0 hn h1 h2,.s (qaf _) (bP ρ n _).symm⟩
 |.sl sz k,h,n,ρ,_,_,hn,h0,_,⟨t,es,h',rfl,h1,h2,h3⟩=>by have m1:=aY ρ n h';have z1:=m1.zero hn h0;have m2:=aY (lu ρ n h') (n+1) es.length;refine ⟨lu (lu ρ n h') (n+1) es.length,m1.trans m2,aV.cons (m2.fact (gV h0 hn h1)) (iw z1 (Nat.succ_pos _) (by omega) h2),.sl (by show n<n+1+1;omega) (qaf _) trivial (bP _ _ _).symm ?_⟩;rw [m2.lin (qaf n),bP];grind
 |.slr sz k lo hi,h,n,ρ,_,_,hn,h0,_,⟨t,es,h',rfl,h1,h2,h3,h4⟩=>by have m1:=aY ρ n h';have z1:=m1.zero hn h0;have m2:=aY (lu ρ n h') (n+1) es.length;refine ⟨lu (lu ρ n h') (n+1) es.length,m1.trans m2,aV.cons (m2.fact (gV h0 hn h1)) (iw z1 (Nat.succ_pos _) h2 h3),.sl (by show n<n+1+1;omega) (qaf _) trivial (bP _ _ _).symm ?_⟩;rw [m2.lin (qaf n),bP];grind
 |.slh sz k,h,n,ρ,_,_,hn,h0,hh,⟨t,es,rfl,h1,h2⟩=>by have m1:=aY ρ n es.length;refine ⟨lu ρ n es.length,m1,iw h0 hn (by omega) h1,.sl (qaF hh) (qaf _) trivial (bP _ _ _).symm ?_⟩;rw [m1.lin hh]<;>grind
 |.zG sz k lo hi,h,n,ρ,_,_,hn,h0,hh,⟨t,es,rfl,h1,h2,h3⟩=>by have m1:=aY ρ n es.length;refine ⟨lu ρ n es.length,m1,iw h0 hn h1 h2,.sl (qaF hh) (qaf _) trivial (bP _ _ _).symm ?_⟩;rw [m1.lin hh]<;>grind
 |.rc l,h,n,ρ,_,ho,hn,h0,hh,⟨h',xs,rfl,h1,h2⟩=>by have m1:=aY ρ n h';have hv:Lin.v ⟨n,0⟩ (lu ρ n h')=h':=bP _ _ _;obtain ⟨ρ2,m2,f2,g2⟩:=eH l (h:=⟨n,0⟩) (n:=n+1) (ρ:=lu ρ n h') ho (Nat.succ_pos _) (m1.zero hn h0) (qaf _) (by rw [hv];omega);refine ⟨ρ2,m1.trans m2,aV.cons (m2.fact (gV h0 hn h1)) f2,.agg g2⟩
 |.rcb lo hi l,h,n,ρ,_,ho,hn,h0,hh,⟨h',xs,rfl,h1,h1',h2⟩=>by have m1:=aY ρ n h';have hv:Lin.v ⟨n,0⟩ (lu ρ n h')=h':=bP _ _ _;obtain ⟨ρ2,m2,f2,g2⟩:=eH l (h:=⟨n,0⟩) (n:=n+1) (ρ:=lu ρ n h') ho (Nat.succ_pos _) (m1.zero hn h0) (qaf _) (by rw [hv];omega);refine ⟨ρ2,m1.trans m2,aV.append (m2.facts (iw h0 hn h1 h1')) f2,.agg g2⟩
 |.rcs _ _,_,_,_,_,ho,_,_,_,_=>by cases ho
 |.kb b,h,n,ρ,x,_,hn,h0,_,hx=>by have hx:x=.v (.bool b):=hx;subst hx;exact ⟨ρ,.refl _ _,.nil,uP b⟩
 |.ag l,h,n,ρ,_,ho,hn,h0,hh,⟨xs,rfl,h2⟩=>by obtain ⟨ρ2,m2,f2,g2⟩:=eH l (h:=h) (n:=n) (ρ:=ρ) ho hn h0 hh h2;exact ⟨ρ2,m2,f2,.agg g2⟩
 |.tu l,h,n,ρ,_,ho,hn,h0,hh,⟨xs,rfl,h2⟩=>by obtain ⟨ρ2,m2,f2,g2⟩:=eH l (h:=h) (n:=n) (ρ:=ρ) ho hn h0 hh h2;exact ⟨ρ2,m2,f2,.tup g2⟩
 |.x y,h,n,ρ,x,_,hn,h0,_,⟨h1,h2⟩=>by subst h1;exact ⟨ρ,.refl _ _,.nil,.x h2⟩
 |.oi,h,n,ρ,x,_,hn,h0,_,hx=>by
  rcases (hx:x=.ifc\/x=.v .nilIface) with rfl|rfl;·exact ⟨ρ,.refl _ _,.nil,.ifc⟩
  exact ⟨ρ,.refl _ _,.nil,.Ah⟩
 |.p i,h,n,ρ,x,_,hn,h0,_,hx=>by have hx:x=.ptr i 0 0:=hx;subst hx;exact ⟨ρ,.refl _ _,.nil,.ptr hn (Lin.k_v h0 0).symm⟩
 |.mp i,h,n,ρ,x,_,hn,h0,_,hx=>by have hx:x=.mp i:=hx;subst hx;exact ⟨ρ,.refl _ _,.nil,.mp⟩
 |.bs i,h,n,ρ,_,_,hn,h0,_,⟨l,rfl,h1⟩=>by have m1:=aY ρ n l;exact ⟨lu ρ n l,m1,iw h0 hn (by omega) h1,.bs (Nat.succ_pos _) (qaf _) (by rw [Lin.k_v (m1.zero hn h0)];rfl) (bP _ _ _).symm⟩
 |.bsr i lo hi,h,n,ρ,_,_,hn,h0,_,⟨l,rfl,h2,h1⟩=>by have m1:=aY ρ n l;exact ⟨lu ρ n l,m1,iw h0 hn h2 h1,.bs (Nat.succ_pos _) (qaf _) (by rw [Lin.k_v (m1.zero hn h0)];rfl) (bP _ _ _).symm⟩
 |.dp l,h,n,ρ,_,ho,hn,h0,hh,⟨xs,rfl,h2⟩=>by obtain ⟨ρ2,m2,f2,g2⟩:=eH l (h:=h) (n:=n) (ρ:=ρ) ho hn h0 hh h2;exact ⟨ρ2,m2,f2,.dp g2⟩
 |.fn f l,h,n,ρ,_,ho,hn,h0,hh,⟨xs,rfl,h2⟩=>by obtain ⟨ρ2,m2,f2,g2⟩:=eH l (h:=h) (n:=n) (ρ:=ρ) ho hn h0 hh h2;exact ⟨ρ2,m2,f2,.fn g2⟩
 |.el k,h,n,ρ,_,_,hn,h0,_,⟨xs,h',rfl,h1,h2⟩=>⟨lu ρ n h',aY _ _ _,aV.cons (gV h0 hn h1) .nil,.el (qaf _) (by grind[bP])⟩
theorem eH:∀(l:List Sh) {h:Lin} {n:Nat} {ρ:Rho} {xs:List X},BX l=true->0<n->ρ 0=0->h.s<n->IsL T (h.v ρ) l xs->zpI T ρ n (qK h n l) xs
 |[],h,n,ρ,[],_,_,_,_,_=>⟨ρ,.refl _ _,.nil,.nil⟩
 |t::r,h,n,ρ,x::xs,ho,hn,h0,hh,⟨h1,h2⟩=>by have ho:(t.own&&BX r)=true:=ho;rw [qab] at ho;obtain ⟨ρ1,m1,f1,g1⟩:=Sh.fwd t ho.1 hn h0 hh h1;have hn':=Nat.lt_of_lt_of_le hn m1.le;obtain ⟨ρ2,m2,f2,g2⟩:=eH r (h:=h) (n:=(t.bld h n).2.1) (ρ:=ρ1) (xs:=xs) ho.2 hn' (m1.zero hn h0) (m1.lt hh) (by rw [m1.lin hh]<;>grind);exact ⟨ρ2,m1.trans m2,aV.append (m2.facts f1) f2,.cons (g1.more m2) g2⟩
end
theorem fE (h0:ρ 0=0)(h:aV n ρ (bnd l (some lo) (some hi))):lo<=l.v ρ/\l.v ρ<=hi:=by have a:=aF.1 (h (au (.k lo) l) (by simp [bnd]));have f:=aF.1 (h (au l (.k hi)) (by simp [bnd]))<;>grind[Lin.k_v]
theorem aV.left (h:aV n ρ (F++F')):aV n ρ F:=fun f a=>h f (List.mem_append_left _ a)
theorem aV.right (h:aV n ρ (F++F')):aV n ρ F':=fun f a=>h f (List.mem_append_right _ a)
theorem aV.tl {f:Fact}(h:aV n ρ (f::F)):aV n ρ F:=fun g a=>h g (qaD _ a)
theorem gU (h0:ρ 0=0)(h:aV n ρ (au (.k 0) l::F)):0<=l.v ρ:=by have a:=aF.1 (h _ (qay ..))<;>grind[Lin.k_v]
mutual
theorem Sh.bwd (h0:ρ 0=0):∀(t:Sh) {h:Lin} {k:Nat} {x:X},aV n ρ (t.bld h k).2.2->G T n ρ (t.bld h k).1 x->t.Is T (h.v ρ) x
 |.i k,_,_,_,_,.i (z:=z) _ _=>⟨z,rfl⟩
 |.ir k lo hi,_,_,_,hF,.i (z:=z) h1 h2=>by have:=fE h0 hF;exact ⟨z,rfl,by omega,by omega⟩
 |.k k c,_,_,_,_,.i (z:=z) h1 h2=>by rw [Lin.k_v h0] at h2;subst h2;rfl
 |.b,_,_,_,_,.b (t:=t) _ _=>⟨t,rfl⟩
 |.s,_,_,_,hF,.s (bs:=bs) h1 h2=>by have:=fE h0 hF;exact ⟨bs,rfl,by omega⟩
 |.sr lo hi,_,_,_,hF,.s (bs:=bs) h1 h2=>by have:=fE h0 hF;exact ⟨bs,rfl,by omega,by omega⟩
 |.sl sz k,_,_,_,hF,.sl (tt:=tt) (es:=es) h1 h2 h3 h4 h5=>by have a:=gU h0 hF;have b:=fE h0 hF.tl;exact ⟨tt,es,_,rfl,a,by omega,h5⟩
 |.slr sz k lo hi,_,_,_,hF,.sl (tt:=tt) (es:=es) h1 h2 h3 h4 h5=>by have a:=gU h0 hF;have b:=fE h0 hF.tl;exact ⟨tt,es,_,rfl,a,by omega,by omega,h5⟩
 |.slh sz k,_,_,_,hF,.sl (tt:=tt) (es:=es) h1 h2 h3 h4 h5=>by have b:=fE h0 hF;exact ⟨tt,es,rfl,by omega,h5⟩
 |.zG sz k lo hi,_,_,_,hF,.sl (tt:=tt) (es:=es) h1 h2 h3 h4 h5=>by have b:=fE h0 hF;exact ⟨tt,es,rfl,by omega,by omega,h5⟩
 |.rc l,_,_,_,hF,.agg (xs:=xs) g=>⟨_,xs,rfl,gU h0 hF,eP h0 l hF.tl g⟩
 |.rcb lo hi l,_,_,_,hF,.agg (xs:=xs) g=>⟨_,xs,rfl,(fE h0 hF.left).1,(fE h0 hF.left).2,eP h0 l hF.right g⟩
 |.rcs s l,_,_,_,hF,.agg (xs:=xs) g=>⟨_,xs,rfl,eP h0 l hF g⟩
 |.kb b,_,_,x,hF,g=>by
  have g:G T n ρ (cb b) x:=g;show x=.v (.bool b);cases b with
  |true=>
   cases g with
   |b g1 g2=>rename_i t;cases t with
    |true=>rfl
    |false=>exact (LW (g2 rfl)).elim
  |false=>
   cases g with
   |b g1 g2=>rename_i t;cases t with
    |false=>rfl
    |true=>exact (LW (g1 rfl)).elim
 |.ag l,_,_,_,hF,.agg (xs:=xs) g=>⟨xs,rfl,eP h0 l hF g⟩
 |.tu l,_,_,_,hF,.tup (xs:=xs) g=>⟨xs,rfl,eP h0 l hF g⟩
 |.x _,_,_,_,hF,.x g=>⟨rfl,g⟩
 |.oi,_,_,_,hF,.ifc=>.inl rfl
 |.oi,_,_,_,hF,.Ah=>.inr rfl
 |.p i,_,_,_,hF,.ptr (e':=e') h1 h2=>by
  rw [Lin.k_v h0] at h2;obtain rfl:e'=0:=by omega
  rfl
 |.mp i,_,_,_,hF,.mp=>rfl
 |.bs i,_,_,_,hF,.bs (o':=o') (l':=l') h1 h2 h3 h4=>by
  rw [Lin.k_v h0] at h3;obtain rfl:o'=0:=by omega
  have b:=fE h0 hF;exact ⟨l',rfl,by omega⟩
 |.bsr i lo hi,_,_,_,hF,.bs (o':=o') (l':=l') h1 h2 h3 h4=>by
  rw [Lin.k_v h0] at h3;obtain rfl:o'=0:=by omega
  have b:=fE h0 hF;exact ⟨l',rfl,by omega,by omega⟩
 |.dp l,_,_,_,hF,.dp (xs:=xs) g=>⟨xs,rfl,eP h0 l hF g⟩
 |.fn f l,_,_,_,hF,.fn (xs:=xs) g=>⟨xs,rfl,eP h0 l hF g⟩
 |.el k,_,_,_,hF,.el (xs:=xs) h1 h2=>⟨xs,_,rfl,gU h0 hF,h2⟩
theorem eP (h0:ρ 0=0):∀(l:List Sh) {h:Lin} {k:Nat} {xs:List X},aV n ρ (qK h k l).2.2->GL T n ρ (qK h k l).1 xs->IsL T (h.v ρ) l xs
 |[],_,_,_,_,.nil=>trivial
 |t::r,h,k,_,hF,.cons g1 g2=>⟨Sh.bwd h0 t hF.left g1,eP h0 r hF.right g2⟩
end
def BSh.Is (T:Tab):BSh->Bx->Prop
 |.var l,x=>∃xs,x=.var xs/\IsL T 0 l xs
 |.rcv l,x=>∃h xs,x=.var xs/\0<=h/\IsL T h l xs
 |.jD lo hi l,x=>∃h xs,x=.var xs/\lo<=h/\h<=hi/\IsL T h l xs
 |.row sz k,x=>∃es h,x=.row sz es/\0<=h/\(es.length:Int)<=dW/\∀e,e∈es->D T h k e
 |.zfp sz k hi,x=>∃es h,x=.row sz es/\0<=h/\(es.length:Int)<=hi/\∀e,e∈es->D T h k e
 |.OX sz k _ _,x=>∃es h,x=.row sz es/\∀e,e∈es->D T h k e
 |.map _,x=>∃es,x=.map es
 |.dead,x=>x=.dead
def BIs (T:Tab):List BSh->List Bx->Prop
 |[],[]=>True
 |t::ts,x::xs=>t.Is T x/\BIs T ts xs
 |_,_=>False
def BSh.own:BSh->Bool
 |.var l=>BX l
 |.rcv l=>BX l
 |.jD _ _ l=>BX l
 |.row _ _=>true
 |.zfp _ _ hi=>leI 0 hi
 |.dead=>true
 |_=>false
theorem nM:∀(l:List BSh) {n:Nat} {ρ:Rho} {xs:List Bx},l.all BSh.own=true->0<n->ρ 0=0->BIs T l xs->
  ∃ρ',More n ρ (uz n l).2.1 ρ'/\aV (uz n l).2.1 ρ' (uz n l).2.2/\GBs T (uz n l).2.1 ρ' (uz n l).1 xs
 |[],n,ρ,[],_,_,_,_=>⟨ρ,.refl _ _,.nil,.nil⟩
 |t::r,n,ρ,x::xs,ho,hn,h0,⟨h1,h2⟩=>by
  rw [List.all_cons,qab] at ho;have rest:∀{n':Nat} {ρ1:Rho},More n ρ n' ρ1->∃ρ',More n' ρ1 (uz n' r).2.1 ρ'/\aV (uz n' r).2.1 ρ' (uz n' r).2.2/\GBs T (uz n' r).2.1 ρ' (uz n' r).1 xs:=fun {n'} {ρ1} m1=>nM r ho.2 (Nat.lt_of_lt_of_le hn m1.le) (m1.zero hn h0) h2
  match t,ho,h1 with
  |.var l,ho,⟨xs',e,k1⟩=>subst e;obtain ⟨ρ1,m1,f1,g1⟩:=eH l (h:=.k 0) (n:=n) (ρ:=ρ) ho.1 hn h0 hn (by rw [Lin.k_v h0];omega);obtain ⟨ρ2,m2,f2,g2⟩:=rest m1;exact ⟨ρ2,m1.trans m2,aV.append (m2.facts f1) f2,.cons (.var (g1.more m2)) g2⟩
  |.rcv l,ho,⟨h',xs',e,hp,k1⟩=>subst e;have m0:=aY ρ n h';obtain ⟨ρ1,m1,f1,g1⟩:=eH l (h:=⟨n,0⟩) (n:=n+1) (ρ:=lu ρ n h') ho.1 (Nat.succ_pos _) (m0.zero hn h0) (qaf _) (by rw [bP];omega);obtain ⟨ρ2,m2,f2,g2⟩:=rest (m0.trans m1);exact ⟨ρ2,(m0.trans m1).trans m2,aV.cons ((m1.trans m2).fact (gV h0 hn hp)) (aV.append (m2.facts f1) f2),.cons (.var (g1.more m2)) g2⟩
  |.jD lo hi l,ho,⟨h',xs',e,hp,hp',k1⟩=>subst e;have m0:=aY ρ n h';obtain ⟨ρ1,m1,f1,g1⟩:=eH l (h:=⟨n,0⟩) (n:=n+1) (ρ:=lu ρ n h') ho.1 (Nat.succ_pos _) (m0.zero hn h0) (qaf _) (by rw [bP];omega);obtain ⟨ρ2,m2,f2,g2⟩:=rest (m0.trans m1);exact ⟨ρ2,(m0.trans m1).trans m2,aV.append ((m1.trans m2).facts (iw h0 hn hp hp')) (aV.append (m2.facts f1) f2),.cons (.var (g1.more m2)) g2⟩
  |.row sz k,ho,⟨es,h',e,hp,hl,k1⟩=>
   subst e;have m1:=aY ρ n h';have m2:=aY (lu ρ n h') (n+1) es.length;obtain ⟨ρ3,m3,f3,g3⟩:=rest (m1.trans m2);refine ⟨ρ3,(m1.trans m2).trans m3,aV.cons ((m2.trans m3).fact (gV h0 hn hp)) (aV.append (m3.facts (iw (m1.zero hn h0) (Nat.succ_pos _) (by omega) hl)) f3),.cons ?_ g3⟩;have g:GB T (n+2) (lu (lu ρ n h') (n+1) es.length) (.row sz k ⟨n,0⟩ ⟨n+1,0⟩) (.row sz es):=by refine .row (by grind) (qaf _) (bP _ _ _).symm ?_;rw [m2.lin (qaf n),bP];exact k1
   exact GB.more m3 g
  |.zfp sz k hi,ho,⟨es,h',e,hp,hl,k1⟩=>
   subst e;have m1:=aY ρ n h';have m2:=aY (lu ρ n h') (n+1) es.length;obtain ⟨ρ3,m3,f3,g3⟩:=rest (m1.trans m2);refine ⟨ρ3,(m1.trans m2).trans m3,aV.cons ((m2.trans m3).fact (gV h0 hn hp)) (aV.append (m3.facts (iw (m1.zero hn h0) (Nat.succ_pos _) (by omega) hl)) f3),.cons ?_ g3⟩;have g:GB T (n+2) (lu (lu ρ n h') (n+1) es.length) (.row sz k ⟨n,0⟩ ⟨n+1,0⟩) (.row sz es):=by refine .row (by grind) (qaf _) (bP _ _ _).symm ?_;rw [m2.lin (qaf n),bP];exact k1
   exact GB.more m3 g
  |.dead,ho,e=>have e:x=.dead:=e;subst e;obtain ⟨ρ2,m2,f2,g2⟩:=rest (.refl n ρ);exact ⟨ρ2,m2,f2,.cons .dead g2⟩
  |.OX _ _ _ _,ho,_=>cases ho.1
  |.map _,ho,_=>cases ho.1
theorem dR (h0:ρ 0=0):∀(l:List BSh) {k:Nat} {xs:List Bx},aV n ρ (uz k l).2.2->GBs T n ρ (uz k l).1 xs->BIs T l xs
 |[],_,_,_,.nil=>trivial
 |.var l::r,k,_,hF,.cons (.var g1) g2=>⟨⟨_,rfl,by have:=eP h0 l (h:=.k 0) hF.left g1<;>grind[Lin.k_v]⟩,dR h0 r hF.right g2⟩
 |.rcv l::r,k,_,hF,.cons (.var g1) g2=>⟨⟨_,_,rfl,gU h0 hF,eP h0 l hF.tl.left g1⟩,dR h0 r hF.tl.right g2⟩
 |.jD lo hi l::r,k,_,hF,.cons (.var g1) g2=>⟨⟨_,_,rfl,(fE h0 hF.left).1,(fE h0 hF.left).2,eP h0 l hF.right.left g1⟩,dR h0 r hF.right.right g2⟩
 |.row sz kk::r,k,_,hF,.cons (.row (es:=es) h1 h2 h3 h4) g2=>by have a:=gU h0 hF;have b:=fE h0 hF.tl.left;exact ⟨⟨es,_,rfl,a,by omega,h4⟩,dR h0 r hF.tl.right g2⟩
 |.zfp sz kk hi::r,k,_,hF,.cons (.row (es:=es) h1 h2 h3 h4) g2=>by have a:=gU h0 hF;have b:=fE h0 hF.tl.left;exact ⟨⟨es,_,rfl,a,by omega,h4⟩,dR h0 r hF.tl.right g2⟩
 |.OX sz kk _ _::r,k,_,hF,.cons (.row (es:=es) h1 h2 h3 h4) g2=>⟨⟨es,_,rfl,h4⟩,dR h0 r hF g2⟩
 |.map _::r,k,_,hF,.cons (.map _) g2=>⟨⟨_,rfl⟩,dR h0 r hF g2⟩
 |.dead::r,k,_,hF,.cons .dead g2=>⟨rfl,dR h0 r hF g2⟩
theorem KI :(mkC f args inb mu outs).outs=outs.map (Wu (mkC f args inb mu outs).m):=rfl
theorem Q8 (ho:BX args=true)(hob:inb.all BSh.own=true)(ha:IsL T 0 args xs)(hb:BIs T inb bx):
  ∃ρ,(mkC f args inb mu outs).Sat T ρ xs bx:=by
 obtain ⟨ρ1,l,q,w⟩:=eH args (h:=.k 0) (n:=1) (ρ:=fun _=>(0:Int)) ho (by omega) rfl (by decide) (by rw [show Lin.v (.k 0) (fun _=>(0:Int))=0 from rfl];omega);have a:0<(qK (.k 0) 1 args).2.1:=Nat.lt_of_lt_of_le (by omega) l.le;have m:=l.zero (by omega) rfl;obtain ⟨ρ2,j,u,y⟩:=nM inb hob a m hb;exact ⟨ρ2,j.zero a m,Nat.lt_of_lt_of_le a j.le,aV.append (j.facts q) u,⟨[],qaa.2 rfl,.nil⟩,w.more j,y⟩
def Says (T:Tab)(Γ:Nat->Gam)(f:FuncId)(xs:List X)(bx:List Bx)(outs:List (Sh×List BSh)):Prop:=
 ∃o,o∈outs/\∃r bx',o.1.Is T 0 r/\BIs T o.2 bx'/\∃B,∀N,B<=N->Γ N (.fn f) xs bx=some (r,bx')
theorem fU (hc:(mkC f args inb mu outs).Holds T Γ)(ho:BX args=true)(hob:inb.all BSh.own=true)
  (ha:IsL T 0 args xs) (hb:BIs T inb bx):Says T Γ f xs bx outs:=by
 obtain ⟨ρ,l⟩:=Q8 (f:=f) (mu:=mu) (outs:=outs) ho hob ha hb;obtain ⟨o,a,ρ',r,j,A,m,n,u,B,w⟩:=hc ρ xs bx l;rw [KI] at a;obtain ⟨q,y,rfl⟩:=qam.1 a;have z:=A.zero l.pos l.zero;refine ⟨q,y,r,j,?_,?_,B,w⟩;·have:=Sh.bwd z q.1 (h:=.k 0) (aV.left m) n<;>grind[Lin.k_v]
 exact dR z q.2 (aV.right m) u
theorem bY (ho:∀o,o∈outs->o.1.own=true/\o.2.all BSh.own=true)
  (h:∀xs bx,IsL T 0 args xs->BIs T inb bx->Says T Γ f xs bx outs):(mkC f args inb mu outs).Holds T Γ:=by
 intro ρ xs bx a;have M:IsL T 0 args xs:=by have:=eP a.zero args (h:=.k 0) (aV.left a.pre) a.args;rw [Lin.k_v a.zero] at this;exact this
 have N:=dR a.zero inb (aV.right a.pre) a.inb;obtain ⟨q,y,r,j,Q,J,B,L⟩:=h xs bx M N;obtain ⟨O,P⟩:=ho q y;obtain ⟨ρ1,u,A,F⟩:=Sh.fwd q.1 (h:=.k 0) (n:=(mkC f args inb mu outs).m) (ρ:=ρ) O a.pos a.zero a.pos (by rw [Lin.k_v a.zero];omega);have l:=Nat.lt_of_lt_of_le a.pos u.le;obtain ⟨ρ2,w,E,H⟩:=nM q.2 P l (u.zero a.pos a.zero) J;exact ⟨_,qam.2 ⟨q,y,rfl⟩,ρ2,r,j,u.trans w,aV.append (w.facts A) E,F.more w,H,B,L⟩
end
section
variable {ext:Ext}{tab:FuncId->Option Fun}{G L:List Ctr}{K:Names}{Γ:Nat->Gam}{orc:Orc}{T:Tab}
theorem aB.nil :aB T Γ []:=fun c a=>by cases a
theorem aB.one {c:Ctr}(h:c.Holds T Γ):aB T Γ [c]:=fun d a=>by rw [qaa.1 a];exact h
def FC (ext:Ext)(G:List Ctr):Bool:=G.all fun c=>(ext c.f).isNone
theorem Ce (h:FC ext G=true):∀c,c∈G->ext c.f=none:=fun c a=>by have:=qas.1 h c a;exact Option.isNone_iff_eq_none.1 this
theorem Lh (hL:aB T (callF tab ext) L)(he:FC ext G=true)(h:G.all (fun c=>AP tab ⟨T,K,L,[],none,0⟩ orc c)=true):aB T (callF tab ext) G:=fun c a=>Xw (K:=K) (orc:=orc) hL (Ce he c a) (qas.1 h c a)
theorem Xv (hL:aB T (callF tab ext) L)(he:FC ext G=true)(hm:G.all Gy=true)(h:G.all (fun c=>AP tab ⟨T,K,L,G,c.mu,c.rank⟩ orc c)=true):aB T (callF tab ext) G:=
 Oe hL (Ce he) hm h
theorem hoA (K:Names)(hL:aB T (callF tab ext) L)(he:FC ext G=true:=by kernel_rfl)(h:G.all (fun c=>AP tab ⟨T,K,L,[],none,0⟩ (pU []) c)=true:=by kernel_rfl):aB T (callF tab ext) G:=Lh hL he h
theorem hoB (K:Names)(orc:Orc)(hL:aB T (callF tab ext) L)(he:FC ext G=true:=by kernel_rfl)(h:G.all (fun c=>AP tab ⟨T,K,L,[],none,0⟩ orc c)=true:=by kernel_rfl):aB T (callF tab ext) G:=Lh hL he h
theorem hrA (K:Names)(orc:Orc)(hL:aB T (callF tab ext) L)(he:FC ext G=true:=by kernel_rfl)(hm:G.all Gy=true:=by kernel_rfl)(h:G.all (fun c=>AP tab ⟨T,K,L,G,c.mu,c.rank⟩ orc c)=true:=by kernel_rfl):aB T (callF tab ext) G:=Xv hL he hm h
theorem hpA:type_of%@aB.append:=@aB.append
end
section
variable {c:Ctr}{ext:Ext}{f:FuncId}{tab:FuncId->Option Fun}{outs:List (Sh×List BSh)}{inb:List BSh}{bx:List Bx}{G L:List Ctr}{args:List Sh}{xs:List X}{K:Names}{Γ:Nat->Gam}{mu:Option (Nat×Nat)}
variable {T:Tab} {n m:Nat} {ρ ρ':Rho}
theorem VX (h0:ρ 0=0)(hp:0<(mkC f args inb mu outs).m)(h:(mkC f args inb mu outs).Res T Γ ρ xs bx):Says T Γ f xs bx outs:=by obtain ⟨o,a,ρ',r,j,A,l,n,u,B,w⟩:=h;rw [KI] at a;obtain ⟨q,y,rfl⟩:=qam.1 a;have z:=A.zero hp h0;refine ⟨q,y,r,j,?_,dR z q.2 (aV.right l) u,B,w⟩;have:=Sh.bwd z q.1 (h:=.k 0) (aV.left l) n<;>grind[Lin.k_v]
theorem VQ (ho:∀o,o∈outs->o.1.own=true/\o.2.all BSh.own=true)(h0:ρ 0=0)(hp:0<(mkC f args inb mu outs).m)(h:Says T Γ f xs bx outs):(mkC f args inb mu outs).Res T Γ ρ xs bx:=by obtain ⟨q,w,r,a,N,H,B,J⟩:=h;obtain ⟨L,M⟩:=ho q w;obtain ⟨ρ1,l,y,E⟩:=Sh.fwd q.1 (h:=.k 0) (n:=(mkC f args inb mu outs).m) (ρ:=ρ) L hp h0 hp (by rw [Lin.k_v h0];omega);have j:=Nat.lt_of_lt_of_le hp l.le;obtain ⟨ρ2,u,A,F⟩:=nM q.2 M j (l.zero hp h0) H;exact ⟨_,qam.2 ⟨q,w,rfl⟩,ρ2,r,a,l.trans u,aV.append (u.facts y) A,E.more u,F,B,J⟩
abbrev Part:=Ctr×Lin
theorem Oc (hL:aB T (callF tab ext) L)(he:FC ext G=true)(hm:G.all Gy=true)
  (h:∀c,c∈G->∀ρ args inb,c.Sat T ρ args inb->∃q:Part,q.1.f=c.f/\(∃orc,AP tab ⟨T,K,L,G,some q.2,c.rank⟩ orc q.1=true)/\Nat.blt q.2.s q.1.m=true/\∃ρ',q.1.Sat T ρ' args inb/\(∀l,c.mu=some l->q.2.v ρ'<=l.v ρ)/\(q.1.Res T (callF tab ext) ρ' args inb->c.Res T (callF tab ext) ρ args inb)):aB T (callF tab ext) G:=by
 have F:∀(d:Nat),∀c,c∈G->c.Below T (callF tab ext) d:=by
  intro d;induction d with
  |zero=>intro c w ρ args inb n ⟨l,u,B,h3⟩<;>grind
  |succ d ih=>intro c w ρ args inb n ⟨l,u,B,h3⟩;obtain ⟨q,M,⟨orc,J⟩,H,ρ',j,E,A⟩:=h c w ρ args inb n;have N:=E l u;refine A (JH (x:=⟨T,K,L,G,some q.2,c.rank⟩) (by grind[Ce]) J j ⟨hL,fun O y=>?_⟩);dsimp only at y;cases y;refine ⟨cZ H,fun c' hc' ρ' args' inb' j ⟨l2,k1,k2,k3⟩=>ih c' hc' ρ' args' inb' j ⟨l2,k1,k2,by grind⟩⟩
 intro c w ρ args inb n;have a:=qas.1 hm c w;unfold Gy at a;cases u:c.mu with
 |none=>grind
 |some l=>rw [u] at a;rw [qab] at a;have B:=aO n.pre a.2;rw [Lin.k_v n.zero] at B;exact F ((16*l.v ρ+c.rank).toNat+1) c w ρ args inb n ⟨l,u,B,by omega⟩
theorem Fe {orc:Orc}{l:Lin}(hl:c.mu=some l)(hb:Nat.blt l.s c.m=true)(h:AP tab ⟨T,K,L,G,some l,c.rank⟩ orc c=true){args:List X}{inb:List Bx}(hs:c.Sat T ρ args inb):
  ∃q:Part,q.1.f=c.f/\(∃orc,AP tab ⟨T,K,L,G,some q.2,c.rank⟩ orc q.1=true)/\Nat.blt q.2.s q.1.m=true/\∃ρ',q.1.Sat T ρ' args inb/\(∀l,c.mu=some l->q.2.v ρ'<=l.v ρ)/\(q.1.Res T (callF tab ext) ρ' args inb->c.Res T (callF tab ext) ρ args inb):=
 ⟨(c,l),rfl,⟨orc,h⟩,hb,ρ,hs,fun a e=>by grind,id⟩
theorem zfl {l:List Sh}{h':Int}{i:Nat}(ho:BX l=true)(hob:inb.all BSh.own=true)(hh:0<=h')(ha:IsL T h' l xs)(hb:BIs T inb bx):
  ∃ρ,ρ 1=h'/\(mkC f [.p i,.rc l] inb mu outs).Sat T ρ [.ptr i 0 0,.agg xs] bx:=by
 have y:=aY (fun _=>(0:Int)) 1 h';obtain ⟨ρ1,u,B,F⟩:=eH l (h:=⟨1,0⟩) (n:=2) (ρ:=lu (fun _=>(0:Int)) 1 h') ho (by omega) (y.zero (by omega) rfl) (by decide) (by rw [bP];omega);have A:=u.zero (by omega) (y.zero (by omega) rfl);have m:0<(qK ⟨1,0⟩ 2 l).2.1:=Nat.lt_of_lt_of_le (by omega) u.le;obtain ⟨ρ2,q,E,H⟩:=nM inb hob m A hb;have w:=q.zero m A;have a:1<(qK ⟨1,0⟩ 2 l).2.1:=Nat.lt_of_lt_of_le (by omega) u.le;have j:=Nat.lt_of_lt_of_le m q.le;refine ⟨ρ2,?_,w,j,?_,⟨[],qaa.2 rfl,.nil⟩,?_,H⟩;·rw [q.same 1 a,u.same 1 (by omega)]<;>simp_all[lu]
 ·refine aV.append ?_ E;show aV (uz (qK ⟨1,0⟩ 2 l).2.1 inb).2.1 ρ2 ([]++((au (.k 0) ⟨1,0⟩::(qK ⟨1,0⟩ 2 l).2.2)++[]));rw [qaU,List.append_nil];refine aV.cons ?_ (q.facts B);refine aF.2 ⟨j,Nat.lt_of_lt_of_le a q.le,?_⟩;rw [Lin.k_v w,q.lin (show (⟨1,0⟩:Lin).s<_ from a),u.lin (show (⟨1,0⟩:Lin).s<2 by decide),bP]<;>grind
 exact .cons (.ptr j (Lin.k_v w 0).symm) (.cons (.agg (F.more q)) .nil)
theorem Ctr.Sat.with {args:List X}{inb:List Bx}(h:c.Sat T ρ args inb){p:List Fact}(hp:aV c.m ρ p):(c.with [p]).Sat T ρ args inb:=
 ⟨h.zero,h.pos,h.pre,⟨p,qaa.2 rfl,hp⟩,h.args,h.inb⟩
end
section
variable {f:FuncId}{inb:List BSh}{bx:List Bx}{args:List Sh}{xs:List X}{Γ:Nat->Gam}{mu:Option (Nat×Nat)}
variable {T:Tab} {n m:Nat} {ρ ρ':Rho}
abbrev OW:=Sh×List BSh×List Fact
variable {outs:List OW}
def zix (m:Nat)(o:OW):Y2:={Wu m (o.1,o.2.1) with F:=o.2.2++(Wu m (o.1,o.2.1)).F}
theorem tV {α β:Type}(f:α->β):∀l:List α,(l.map f).zip l=l.map fun x=>(f x,x)
 |[]=>rfl
 |x::r=>by rw [qaR,List.zip_cons_cons,tV f r];rfl
theorem wV :(dF f args inb mu outs).outs=outs.map (zix (dF f args inb mu outs).m):=by show (((outs.map fun o=>(o.1,o.2.1)).map (Wu _)).zip outs).map _=_;rw [List.map_map,tV,List.map_map];rfl
theorem jX {q:OW}{r:X}(hq:q∈outs)(h0:ρ 0=0)(hp:0<(dF f args inb mu outs).m)(w1:q.1.own=true)(hb:q.2.1=[])(h1:q.1.Is T 0 r)
  (hF:∀n' ρ',More (dF f args inb mu outs).m ρ n' ρ'->ρ' 0=0->G T n' ρ' (q.1.bld (.k 0) (dF f args inb mu outs).m).1 r->n'=(q.1.bld (.k 0) (dF f args inb mu outs).m).2.1->aV n' ρ' q.2.2)
  (h:∃B,∀N,B<=N->Γ N (.fn f) xs bx=some (r,[])):(dF f args inb mu outs).Res T Γ ρ xs bx:=by
 obtain ⟨l,bs,F⟩:=q;dsimp only at hb w1 h1 hF;subst hb;obtain ⟨B,w⟩:=h;obtain ⟨ρ1,a,u,j⟩:=Sh.fwd l (h:=.k 0) (n:=(dF f args inb mu outs).m) (ρ:=ρ) w1 hp h0 hp (by rw [Lin.k_v h0];exact h1);have y:=hF _ ρ1 a (a.zero hp h0) j rfl;refine ⟨zix (dF f args inb mu outs).m (l,[],F),by rw [wV];exact qam.2 ⟨_,hq,rfl⟩,ρ1,r,[],a,aV.append y (aV.append u .nil),j,.nil,B,w⟩
theorem wK (h0:ρ 0=0)(hp:0<(dF f args inb mu outs).m)(h:(dF f args inb mu outs).Res T Γ ρ xs bx):
  ∃q,q∈outs/\∃n' ρ' r bx',More (dF f args inb mu outs).m ρ n' ρ'/\ρ' 0=0/\aV n' ρ' q.2.2/\G T n' ρ' (q.1.bld (.k 0) (dF f args inb mu outs).m).1 r/\q.1.Is T 0 r/\BIs T q.2.1 bx'/\∃B,∀N,B<=N->Γ N (.fn f) xs bx=some (r,bx'):=by
 obtain ⟨o,a,ρ',r,bx',u,j,n,w,B,y⟩:=h;rw [wV] at a;obtain ⟨q,A,rfl⟩:=qam.1 a;have z:=u.zero hp h0;have l:aV _ ρ' (Wu (dF f args inb mu outs).m (q.1,q.2.1)).F:=aV.right j;refine ⟨q,A,_,ρ',r,bx',u,z,aV.left j,n,?_,dR z q.2.1 (aV.right l) w,B,y⟩;have:=Sh.bwd z q.1 (h:=.k 0) (aV.left l) n;rw [Lin.k_v z] at this;exact this
theorem KJ (ho:BX args=true)(hob:inb.all BSh.own=true)(ha:IsL T 0 args xs)(hb:BIs T inb bx):
  ∃ρ,(dF f args inb mu outs).Sat T ρ xs bx:=by
 obtain ⟨ρ,a⟩:=Q8 (f:=f) (mu:=mu) (outs:=outs.map fun o=>(o.1,o.2.1)) ho hob ha hb;exact ⟨ρ,a.zero,a.pos,a.pre,a.alts,a.args,a.inb⟩
end
end Go.Ab
