/-.-/
import Derived.Test.YtpcjeobkehmhpaaGreatDoorEmU7
import Derived.Test.YtpcjeobkehmhpaaGreatDoorEmU11
set_option linter.unusedSimpArgs false
set_option linter.unusedVariables false
namespace Go.Ab
open Go.Em
variable {a:ASt}{r y:AX}{c:Ctr}{ext:Ext}{tab:FuncId->Option Fun}{bx:List ABx}{bxs:List Bx}{L:List Ctr}{K:Names}{S:Nat->Nat->Bool}{orc:Orc}{σ:St}{x:X}
variable {T:Tab} {n m:Nat} {ρ ρ':Rho} {Γ:Nat->Gam}
def zoD:Nat->List AX->List (Nat×AX)
 |_,[]=>[]
 |k,x::r=>(k,x)::zoD (k+1) r
theorem Xn:∀{l:List AX} {m:List X} {k:Nat},GL T n ρ l m->GT T n ρ (zoD k l) (Hu k m)
 |_,_,_,.nil=>.nil
 |_,_,_,.cons h1 h2=>.cons h1 (Xn h2)
def zkB (a:ASt)(t:Nat)(k:Option Nat):Option AX:=match lkA a.tm t with
 |some (.ptr i e o)=>match a.bx[i]? with
  |some (.var cs)=>if zbX e then takeA k (cs.drop o) else none
  |_=>none
 |some (.dp cs)=>takeA k cs
 |_=>none
theorem ze3 (hr:R T ρ a σ){t:Nat}{k:Option Nat}(h:zkB a t k=some y):∃x,(lk σ.tm t).bind (oq σ k)=some x/\G T a.nx ρ y x:=by
 unfold zkB at h;split at h
 ·rename_i i e o hl;obtain ⟨x,hx,hg⟩:=jr hr.tm hl;cases hg with
  |ptr q1 q2=>
   rename_i en;split at h
   ·rename_i cs hb;split at h
    ·rename_i hz;obtain ⟨b,hb',hgb⟩:=hr.bx.get hb;cases hgb with
     |var hv=>
      rename_i xv;have h0:=rD hz hr.zero;have:en=0:=by omega
      subst this;obtain ⟨z,hz',hgz⟩:=zW (hv.drop o) h<;>grind[oq,jU]
    grind
   grind
 ·rename_i cs hl;obtain ⟨x,hx,hg⟩:=jr hr.tm hl;cases hg with
  |dp hv=>obtain ⟨z,hz',hgz⟩:=zW hv h;refine ⟨z,?_,hgz⟩;rw [hx,Option.bind_some];exact hz'
 grind
def zmM (a:ASt):List Rv->Option (List AX)
 |[]=>some []
 |r::rs=>match (match r with|.tmp t=>lkA a.tm t|.cell t k=>zkB a t k) with
  |none=>none
  |some x=>(zmM a rs).map (x::·)
theorem YF {a:ASt}{σ:St}(hr:R T ρ a σ):∀{rs:List Rv} {ys:List AX},zmM a rs=some ys->∃xs,Xg σ rs=some xs/\GL T a.nx ρ ys xs
 |[],ys,h=>by simp only [zmM,qag] at h;subst h;exact ⟨[],rfl,.nil⟩
 |r::rs,ys,h=>by
  unfold zmM at h;split at h;·cases h
  rename_i y hy;obtain ⟨ys',h1,rfl⟩:=qac.1 h;obtain ⟨xs,h2,h3⟩:=YF hr h1;cases r with
  |tmp t=>obtain ⟨x,hx,hg⟩:=jr hr.tm hy;exact ⟨x::xs,by grind[Xg],.cons hg h3⟩
  |cell t k=>obtain ⟨x,hx,hg⟩:=ze3 hr hy;exact ⟨x::xs,by grind[Xg],.cons hg h3⟩
def RQ:List AX->AX
 |[x]=>x
 |xs=>.tup xs
theorem OU {l:List AX}{m:List X}(h:GL T n ρ l m):G T n ρ (RQ l) (qR m):=by
 cases h with
 |nil=>exact .tup .nil
 |cons h1 h2=>
  cases h2 with
  |nil=>exact h1
  |cons h3 h4=>exact .tup (.cons h1 (.cons h3 h4))
def zhN (nIn:Nat)(y:AX)(bx:List ABx):Option (AX×List ABx):=
 let sel:=tK bx iL (List.range nIn++y.refs) []
 if Oj y.refs sel&&sel.take nIn==List.range nIn then (LY bx sel).map fun b=>(y.ren (uO · sel),b) else none
theorem zdh {nIn:Nat}{q:AX×List ABx}(hg:G T n ρ y x)(hb:GBs T n ρ bx bxs)(h:zhN nIn y bx=some q):∃z w,pack nIn x bxs=some (z,w)/\G T n ρ q.1 z/\GBs T n ρ q.2 w:=by
 unfold zhN at h;dsimp only at h;split at h;next hc=>obtain ⟨p,hp,rfl⟩:=qac.1 h;obtain ⟨w,hw,hgw⟩:=BG hb hp;refine ⟨_,w,?_,hg.ren _,hgw⟩;unfold pack;dsimp only;rw [hg.refs,nX hb,if_pos hc,hw];rfl
 grind
def zpa (S:Nat->Nat->Bool)(k:Nat)(a:ASt)(r:AX)(bx:List ABx)(o:zfq):Bool:=
 let acc:=NQ bx o.bx (zfa r o.r [])
 let c:In:=⟨S,a.F,eG k acc,o.m⟩
 Nat.ble k o.m&&Nat.ble k a.nx&&Nat.blt 0 k&&leX c r o.r&&znh c bx o.bx&&
  o.F.all (fun f=>Nat.blt f.x o.m&&Nat.blt f.y o.m&&leL a.F (eG k acc f.x) ((eG k acc f.y).up f.c))
theorem zaP (hS:SOk T S){k:Nat}{o:zfq}(hr:R T ρ a σ)(hg:G T a.nx ρ r x)(hb:GBs T a.nx ρ bx bxs)(h:zpa S k a r bx o=true):
  ∃ρo,More k ρ o.m ρo/\aX o.m ρo o.F/\G T o.m ρo o.r x/\GBs T o.m ρo o.bx bxs:=by
 unfold zpa at h;simp only [qab] at h;obtain ⟨⟨⟨⟨⟨h1,h2⟩,h3⟩,h4⟩,h5⟩,h6⟩:=h;generalize NQ bx o.bx (zfa r o.r [])=acc at h4 h5 h6;have hk:=dX h3;have hsame:∀s,s<k->back (eG k acc) ρ s=ρ s:=fun s hs=>by simp_all[back,eG,Lin.v]
 refine ⟨back (eG k acc) ρ,⟨Nat.le_of_ble_eq_true h1,hsame⟩,fun f hf=>?_,SH (c:=⟨S,a.F,eG k acc,o.m⟩) hS hr.zero hr.F h4 hg,O7 (c:=⟨S,a.F,eG k acc,o.m⟩) hS hr.zero hr.F h5 hb⟩;have:=qas.1 h6 f hf;simp only [qab] at this;obtain ⟨⟨e1,e2⟩,e3⟩:=this;have e4:=aU hr.F e3;rw [Lin.mQ] at e4;exact ⟨dX e1,dX e2,e4⟩
def zks:ASt->List AX->List (ASt×List AX)
 |a,[]=>[(a,[])]
 |a,.b tf ff::r=>(match assume a tf with|some a'=>(zks a' r).map (fun q=>(q.1,cb true::q.2))|none=>[])++
   (match assume a ff with|some a'=>(zks a' r).map (fun q=>(q.1,cb false::q.2))|none=>[])
 |a,y::r=>(zks a r).map (fun q=>(q.1,y::q.2))
theorem JV:∀{ys:List AX} {a:ASt} {σ:St} {xs:List X},R T ρ a σ->GL T a.nx ρ ys xs->∃q,q∈zks a ys/\q.1.nx=a.nx/\R T ρ q.1 σ/\GL T a.nx ρ q.2 xs
 |[],a,σ,_,hr,.nil=>⟨(a,[]),qaa.2 rfl,rfl,hr,.nil⟩
 |y::r,a,σ,_,hr,.cons (x:=x) (m:=m) h1 h2=>by
  have plain:(∃q,q∈(zks a r).map (fun q:ASt×List AX=>(q.1,y::q.2))/\q.1.nx=a.nx/\R T ρ q.1 σ/\GL T a.nx ρ q.2 (x::m)):=by obtain ⟨q,hq,e,k1,k2⟩:=JV hr h2;exact ⟨_,qal.2 ⟨q,hq,rfl⟩,e,k1,.cons h1 k2⟩
  unfold zks;split
  ·grind
  ·rename_i tf ff r' heq;cases heq;cases h1 with
   |b g1 g2=>
    rename_i t;cases t with
    |true=>obtain ⟨a',e1,e2,e3⟩:=jY hr (g1 rfl);rw [e1];obtain ⟨q,hq,e,k1,k2⟩:=JV e2 (e3▸h2);exact ⟨_,List.mem_append_left _ (qal.2 ⟨q,hq,rfl⟩),e.trans e3,k1,.cons (zU true) (e3▸k2)⟩
    |false=>obtain ⟨a',e1,e2,e3⟩:=jY hr (g2 rfl);rw [e1];obtain ⟨q,hq,e,k1,k2⟩:=JV e2 (e3▸h2);exact ⟨_,List.mem_append_right _ (qal.2 ⟨q,hq,rfl⟩),e.trans e3,k1,.cons (zU false) (e3▸k2)⟩
  grind
def zqk:List ABx->List Lin
 |[]=>[]
 |.row _ _ h _::r=>h::zqk r
 |_::r=>zqk r
mutual
def upX (F:List Fact)(H:Lin):AX->AX
 |.sl t sz k h l=>.sl t sz k (if leL F h H then H else h) l
 |.agg cs=>.agg (upL F H cs)
 |.tup cs=>.tup (upL F H cs)
 |a=>a
def upL (F:List Fact)(H:Lin):List AX->List AX
 |[]=>[]
 |a::r=>upX F H a::upL F H r
end
def upB (F:List Fact)(H:Lin):ABx->ABx
 |.row sz k h l=>.row sz k (if leL F h H then H else h) l
 |b=>b
mutual
theorem zfF {F:List Fact}{H:Lin}(hF:aX n ρ F)(hH:H.s<n):∀{a:AX} {x:X},G T n ρ a x->G T n ρ (upX F H a) x:=by
 intro a x hg;unfold upX;split
 ·cases hg with
  |sl h1 h2 h3 h4 h5=>
   split;next hc=>exact .sl hH h2 h3 h4 fun e he=>fU (aU hF hc) (h5 e he)
   exact .sl h1 h2 h3 h4 h5
 ·cases hg with|agg h1=>exact .agg (XB hF hH h1)
 ·cases hg with|tup h1=>exact .tup (XB hF hH h1)
 grind
theorem XB {F:List Fact}{H:Lin}(hF:aX n ρ F)(hH:H.s<n):∀{a:List AX} {x:List X},GL T n ρ a x->GL T n ρ (upL F H a) x
 |[],_,.nil=>.nil
 |a::r,_,.cons h1 h2=>.cons (zfF hF hH h1) (XB hF hH h2)
end
theorem zfG {F:List Fact}{H:Lin}(hF:aX n ρ F)(hH:H.s<n):∀{a:List ABx} {x:List Bx},GBs T n ρ a x->GBs T n ρ (a.map (upB F H)) x
 |[],_,.nil=>.nil
 |a::r,_,.cons h1 h2=>by
  refine .cons ?_ (zfG hF hH h2);unfold upB;split
  ·cases h1 with
   |row q1 q2 q3 q4=>
    split;next hc=>exact .row hH q2 q3 fun e he=>fU (aU hF hc) (q4 e he)
    exact .row q1 q2 q3 q4
  grind
def zii (a:ASt)(r:AX)(bx:List ABx):Option (ASt×AX×List ABx):=match zqi r++zqk bx with
 |h::t=>match maxes a t h with
  |some (H,a')=>if Nat.blt H.s a'.nx then some (a',upX a'.F H r,bx.map (upB a'.F H)) else none
  |none=>none
 |[]=>none
theorem zdF {q:ASt×AX×List ABx}(hr:R T ρ a σ)(hg:G T a.nx ρ r x)(hb:GBs T a.nx ρ bx bxs)(h:zii a r bx=some q):
  ∃ρ',More a.nx ρ q.1.nx ρ'/\R T ρ' q.1 σ/\G T q.1.nx ρ' q.2.1 x/\GBs T q.1.nx ρ' q.2.2 bxs:=by
 unfold zii at h;split at h
 ·split at h
  ·rename_i H a' hm;split at h;next hc=>cases h;obtain ⟨ρ',m1,r1⟩:=Jd hr hm;exact ⟨ρ',m1,r1,zfF r1.F (dX hc) (hg.more m1),zfG r1.F (dX hc) (hb.more m1)⟩
   grind
  grind
 grind
def zkj (S:Nat->Nat->Bool)(c:Ctr)(a:ASt)(r:AX)(bx:List ABx):Bool:=(c.outs.any fun o=>zpa S c.m a r bx o)||match zii a r bx with
 |some q=>c.outs.any fun o=>zpa S c.m q.1 q.2.1 q.2.2 o
 |none=>false
theorem zeD (hS:SOk T S)(hr:R T ρ a σ)(hg:G T a.nx ρ r x)(hb:GBs T a.nx ρ bx bxs)(hk:c.m<=a.nx)(h:zkj S c a r bx=true):
  ∃o,o∈c.outs/\∃ρo,More c.m ρ o.m ρo/\aX o.m ρo o.F/\G T o.m ρo o.r x/\GBs T o.m ρo o.bx bxs:=by
 unfold zkj at h;rw [Bool.or_eq_true] at h;rcases h with h|h
 ·grind[zaP]
 split at h;next q hq=>obtain ⟨ρ1,m1,r1,g1,b1⟩:=zdF hr hg hb hq;obtain ⟨o,ho,hf⟩:=List.any_eq_true.1 h;obtain ⟨ρo,m2,f2,g2,b2⟩:=zaP hS r1 g1 b1 hf;exact ⟨o,ho,ρo,⟨m2.le,fun s hs=>by rw [m2.same s hs,m1.same s (Nat.lt_of_lt_of_le hs hk)]⟩,f2,g2,b2⟩
 grind
def ER (tab:FuncId->Option Fun)(x:Cx)(orc:Orc)(c:Ctr):Bool:=match tab c.f with
 |none=>false
 |some fd=>(c.args.length==fd.np)&&Nat.blt 0 c.m&&c.alts.all fun p=>match Ku x orc c.inb.length fd.body (zf2 c.m) ⟨c.m,p++c.pre,zoD 0 c.args,c.inb⟩ with
  |none=>false
  |some outs=>outs.all fun q=>(match q.1 with|.norm|.ret=>true|_=>false)&&match zmM q.2 fd.res with
   |none=>false
   |some ys=>(zks q.2 ys).all fun w=>match zhN c.inb.length (RQ w.2) w.1.bx with
    |none=>false
    |some (r,bx)=>zkj (kle x.T) c w.1 r bx
theorem QN {x:Cx}(he:ext c.f=none)(h:ER tab x orc c=true){ρ:Rho}{args:List X}{inb:List Bx}(hs:c.Sat x.T ρ args inb)(hx:NY (ah tab ext) x c.m ρ):c.Res x.T (ah tab ext) ρ args inb:=by
 unfold ER at h;split at h;·cases h
 rename_i fd hfd;simp only [qab] at h;obtain ⟨⟨h1,h2⟩,h3⟩:=h;obtain ⟨p,hp,hpF⟩:=hs.alts;have h3:=qas.1 h3 p hp;split at h3
 ·grind
 rename_i outs ho;have hr:R x.T ρ ⟨c.m,p++c.pre,zoD 0 c.args,c.inb⟩ ⟨Hu 0 args,inb⟩:=⟨hs.zero,hs.pos,hpF.append hs.pre,Xn hs.args,hs.inb⟩;obtain ⟨q,hq,ρ1,σ1,k1,k2,B,k3⟩:=uj (Γ:=ah tab ext) hx hr ho;have h4:=qas.1 h3 q hq;rw [qab] at h4;obtain ⟨h4,h5⟩:=h4;split at h5
 ·grind
 rename_i ys hys;obtain ⟨xs,hxs,hgx⟩:=YF k2 hys;obtain ⟨w,hw,ew,kw,gw⟩:=JV k2 hgx;have h5:=qas.1 h5 w hw;split at h5
 ·grind
 rename_i r bx hp;rw [<-ew] at gw;obtain ⟨z,v,hz,hgz,hgw⟩:=zdh (OU gw) kw.bx hp;obtain ⟨o,hom,ρo,m1,m2,m3,m4⟩:=zeD (sok x.T) kw hgz hgw (by rw [ew];exact k1.le) h5;have hlen:=hs.inb.len;have hal:=hs.args.len;refine ⟨o,hom,ρo,z,v,⟨m1.le,fun s hs'=>by rw [m1.same s hs',k1.same s hs']⟩,m2,m3,m4,B+1,fun N hN=>?_⟩;obtain ⟨M,rfl⟩:∃M,N=M+1:=⟨N-1,by omega⟩;have h6:=k3 M (by omega);unfold ah;rw [he];dsimp only;rw [hfd];dsimp only;unfold zlC
 grind
def ay (T:Tab)(Γ:Nat->Gam)(L:List Ctr):Prop:=∀c,c∈L->c.Holds T Γ
theorem zd8 {T:Tab}(hL:ay T (ah tab ext) L)(he:ext c.f=none)(h:ER tab ⟨T,K,L,[],none,0⟩ orc c=true):c.Holds T (ah tab ext):=fun _ _ _ hs=>QN (x:=⟨T,K,L,[],none,0⟩) he h hs ⟨hL,fun l hl=>by grind⟩
def NH (c:Ctr):Bool:=match c.mu with
 |some l=>Nat.blt l.s c.m&&leL c.pre (.k 0) l
 |none=>false
theorem VK {T:Tab}{G:List Ctr}(hL:ay T (ah tab ext) L)(he:∀c,c∈G->ext c.f=none)(hm:G.all NH=true)(h:G.all (fun c=>ER tab ⟨T,K,L,G,c.mu,c.rank⟩ orc c)=true):ay T (ah tab ext) G:=by
 have key:∀(d:Nat),∀c,c∈G->c.Below T (ah tab ext) d:=by
  intro d;induction d with
  |zero=>intro c hc ρ args inb hs ⟨l,h1,h2,h3⟩<;>grind
  |succ d ih=>intro c hc ρ args inb hs ⟨l,h1,h2,h3⟩;have hmu:=qas.1 hm c hc;unfold NH at hmu;rw [h1] at hmu;rw [qab] at hmu;refine QN (x:=⟨T,K,L,G,c.mu,c.rank⟩) (he c hc) (qas.1 h c hc) hs ⟨hL,fun l' hl'=>?_⟩;dsimp only at hl';rw [h1] at hl';cases hl';refine ⟨dX hmu.1,fun c' hc' ρ' args' inb' hs' ⟨l2,k1,k2,k3⟩=>ih c' hc' ρ' args' inb' hs' ⟨l2,k1,k2,by grind⟩⟩
 intro c hc ρ args inb hs;have hmu:=qas.1 hm c hc;unfold NH at hmu;cases h1:c.mu with
 |none=>grind
 |some l=>rw [h1] at hmu;rw [qab] at hmu;have h2:=aU hs.pre hmu.2;rw [Lin.k_v hs.zero] at h2;exact key ((16*l.v ρ+c.rank).toNat+1) c hc ρ args inb hs ⟨l,h1,h2,by omega⟩
theorem ay.append {M:List Ctr}(h:ay T Γ L)(h':ay T Γ M):ay T Γ (L++M):=fun c hc=>(qaK.1 hc).elim (h c) (h' c)
end Go.Ab
namespace Go.Ab
open Go.Em
mutual
def AX.zih:AX->List Lin
 |.i _ l=>[l]
 |.s l=>[l]
 |.sl _ _ _ h l=>[h,l]
 |.bs _ a b=>[a,b]
 |.ptr _ e _=>[e]
 |.dp cs=>VA cs
 |.fn _ cs=>VA cs
 |.agg cs=>VA cs
 |.tup cs=>VA cs
 |.el _ h=>[h]
 |.de _ h=>[h]
 |.b _ _|.x _|.yl _|.mp _|.tX=>[]
def VA:List AX->List Lin
 |[]=>[]
 |x::r=>x.zih++VA r
end
def zif:List (Nat×AX)->List Lin
 |[]=>[]
 |p::r=>p.2.zih++zif r
def znd:List (Value×AX)->List Lin
 |[]=>[]
 |p::r=>p.2.zih++znd r
def ABx.zih:ABx->List Lin
 |.var cs=>VA cs
 |.row _ _ h l=>[h,l]
 |.loop _ _ tm _ _ _=>zif tm
 |.map es=>znd es
 |.el _ h=>[h]
 |.dead=>[]
def zne:List ABx->List Lin
 |[]=>[]
 |x::r=>x.zih++zne r
def ASt.zih (a:ASt):List Lin:=zif a.tm++zne a.bx
def keysT:List (Nat×AX)->List Nat
 |[]=>[]
 |p::r=>p.1::keysT r
def eqN:List Nat->List Nat->Bool
 |[],[]=>true
 |a::l,b::r=>Nat.beq a b&&eqN l r
 |_,_=>false
structure Found where
 keys:List Nat
 make:(Nat->Lin)->Nat->Nat×List Fact×List (Nat×AX)×List ABx×Mu
def Found.at (q:Found)(a:ASt):ASt×Mu:=
 let l:=a.zih
 match q.make (fun k=>l.getD k default) a.nx with
 |(nx,F,tm,bx,mu)=>(⟨nx,F++a.F,tm,bx⟩,mu)
def iM (l:List Found):Orc:=fun _ a=>l.findSome? fun q=>if eqN q.keys (keysT a.tm) then
 (let r:=q.at a;if zlK (fun k j=>Nat.beq k j||zfL k j) a.nx (zo a r.1) a r.1 then some r else none) else none
end Go.Ab
namespace Go.Ab
open Go.Em
inductive Sh where
 |i (k:IntKind)
 |ir (k:IntKind) (lo hi:Int)
 |k (k:IntKind) (c:Int)
 |b
 |s
 |sr (lo hi:Int)
 |sl (sz k:Nat)
 |slr (sz k:Nat) (lo hi:Int)
 |slh (sz k:Nat)
 |wW (sz k:Nat) (lo hi:Int)
 |rc (l:List Sh)
 |rcb (lo hi:Int) (l:List Sh)
 |rcs (h:Nat) (l:List Sh)
 |kb (b:Bool)
 |ag (l:List Sh)
 |tu (l:List Sh)
 |x (x:X)
 |oi
 |p (i:Nat)
 |mp (i:Nat)
 |bs (i:Nat)
 |bsr (i:Nat) (lo hi:Int)
 |dp (l:List Sh)
 |fn (f:FuncId) (l:List Sh)
 |el (k:Nat)
 deriving Inhabited
def bT:Int:=1000000
abbrev Bld:=AX×Nat×List Fact
mutual
def Sh.bld (h:Lin)(n:Nat):Sh->Bld
 |.i k=>(.i k ⟨n,0⟩,n+1,[])
 |.ir k lo hi=>(.i k ⟨n,0⟩,n+1,bnd ⟨n,0⟩ (some lo) (some hi))
 |.k k c=>(.i k (.k c),n,[])
 |.b=>(.b [] [],n,[])
 |.s=>(.s ⟨n,0⟩,n+1,bnd ⟨n,0⟩ (some 0) (some bT))
 |.sr lo hi=>(.s ⟨n,0⟩,n+1,bnd ⟨n,0⟩ (some lo) (some hi))
 |.sl sz k=>(.sl none sz k ⟨n,0⟩ ⟨n+1,0⟩,n+2,aj (.k 0) ⟨n,0⟩::bnd ⟨n+1,0⟩ (some 0) (some bT))
 |.slr sz k lo hi=>(.sl none sz k ⟨n,0⟩ ⟨n+1,0⟩,n+2,aj (.k 0) ⟨n,0⟩::bnd ⟨n+1,0⟩ (some lo) (some hi))
 |.slh sz k=>(.sl none sz k h ⟨n,0⟩,n+1,bnd ⟨n,0⟩ (some 0) (some bT))
 |.wW sz k lo hi=>(.sl none sz k h ⟨n,0⟩,n+1,bnd ⟨n,0⟩ (some lo) (some hi))
 |.rc l=>match mO ⟨n,0⟩ (n+1) l with|(cs,m,F)=>(.agg cs,m,aj (.k 0) ⟨n,0⟩::F)
 |.rcb lo hi l=>match mO ⟨n,0⟩ (n+1) l with|(cs,m,F)=>(.agg cs,m,bnd ⟨n,0⟩ (some lo) (some hi)++F)
 |.ag l=>match mO h n l with|(cs,m,F)=>(.agg cs,m,F)
 |.rcs s l=>match mO ⟨s,0⟩ n l with|(cs,m,F)=>(.agg cs,m,F)
 |.kb b=>(cb b,n,[])
 |.tu l=>match mO h n l with|(cs,m,F)=>(.tup cs,m,F)
 |.x x=>(.x x,n,[])
 |.oi=>(.tX,n,[])
 |.p i=>(.ptr i (.k 0) 0,n,[])
 |.mp i=>(.mp i,n,[])
 |.bs i=>(.bs i (.k 0) ⟨n,0⟩,n+1,bnd ⟨n,0⟩ (some 0) (some bT))
 |.bsr i lo hi=>(.bs i (.k 0) ⟨n,0⟩,n+1,bnd ⟨n,0⟩ (some lo) (some hi))
 |.dp l=>match mO h n l with|(cs,m,F)=>(.dp cs,m,F)
 |.fn f l=>match mO h n l with|(cs,m,F)=>(.fn f cs,m,F)
 |.el k=>(.el k ⟨n,0⟩,n+1,[aj (.k 0) ⟨n,0⟩])
def mO (h:Lin)(n:Nat):List Sh->List AX×Nat×List Fact
 |[]=>([],n,[])
 |t::r=>match t.bld h n with
  |(a,n',F)=>match mO h n' r with
   |(l,n'',F')=>(a::l,n'',F++F')
end
inductive BSh where
 |var (l:List Sh)
 |rcv (l:List Sh)
 |l9 (lo hi:Int) (l:List Sh)
 |row (sz k:Nat)
 |zbS (sz k:Nat) (hi:Int)
 |yX (sz k h l:Nat)
 |map (es:List (Value×X))
 |dead
 deriving Inhabited
def qy (n:Nat):List BSh->List ABx×Nat×List Fact
 |[]=>([],n,[])
 |.var l::r=>match mO (.k 0) n l with
  |(cs,n',F)=>match qy n' r with
   |(bs,n'',F')=>(.var cs::bs,n'',F++F')
 |.rcv l::r=>match mO ⟨n,0⟩ (n+1) l with
  |(cs,n',F)=>match qy n' r with
   |(bs,n'',F')=>(.var cs::bs,n'',aj (.k 0) ⟨n,0⟩::(F++F'))
 |.l9 lo hi l::r=>match mO ⟨n,0⟩ (n+1) l with
  |(cs,n',F)=>match qy n' r with
   |(bs,n'',F')=>(.var cs::bs,n'',bnd ⟨n,0⟩ (some lo) (some hi)++(F++F'))
 |.map es::r=>match qy n r with
  |(bs,n'',F')=>(.map (es.map fun q=>(q.1,ofX q.2))::bs,n'',F')
 |.yX sz k h l::r=>match qy n r with
  |(bs,n'',F')=>(.row sz k ⟨h,0⟩ ⟨l,0⟩::bs,n'',F')
 |.dead::r=>match qy n r with
  |(bs,n'',F')=>(.dead::bs,n'',F')
 |.zbS sz k hi::r=>match qy (n+2) r with
  |(bs,n'',F')=>(.row sz k ⟨n,0⟩ ⟨n+1,0⟩::bs,n'',aj (.k 0) ⟨n,0⟩::(bnd ⟨n+1,0⟩ (some 0) (some hi)++F'))
 |.row sz k::r=>match qy (n+2) r with
  |(bs,n'',F')=>(.row sz k ⟨n,0⟩ ⟨n+1,0⟩::bs,n'',aj (.k 0) ⟨n,0⟩::(bnd ⟨n+1,0⟩ (some 0) (some bT)++F'))
def F9 (m:Nat)(o:Sh×List BSh):zfq:=match o.1.bld (.k 0) m with
 |(r,n,F)=>match qy n o.2 with
  |(bs,n',F')=>⟨n',F++F',r,bs⟩
def mkC (f:FuncId)(args:List Sh)(inb:List BSh)(mu:Option (Nat×Nat))(outs:List (Sh×List BSh)):Ctr:=match mO (.k 0) 1 args with
 |(as,n,F)=>match qy n inb with
  |(bs,n',F')=>⟨f,n',as,bs,F++F',mu.map fun s=>⟨s.1,0⟩,outs.map (F9 n'),(mu.map (·.2)).getD 0,[[]]⟩
def dM (f:FuncId)(args:List Sh)(inb:List BSh)(mu:Option (Nat×Nat))(outs:List (Sh×List BSh×List Fact)):Ctr:=
 let c:=mkC f args inb mu (outs.map fun o=>(o.1,o.2.1))
 {c with outs:=(c.outs.zip outs).map fun q=>{q.1 with F:=q.2.2.2++q.1.F}}
def Ctr.with (c:Ctr)(l:List (List Fact)):Ctr:={c with alts:=l}
def bd (s:Nat)(lo hi:Int):List Fact:=[aj (.k lo) ⟨s,0⟩,aj ⟨s,0⟩ (.k hi)]
def lt (s:Nat)(c:Int)(t:Nat):Fact:=aj ⟨s,c⟩ ⟨t,0⟩
end Go.Ab
namespace Go.Ab
open Go.Em
variable {f:FuncId}{hi lo z:Int}{l:Lin}{outs:List (Sh×List BSh)}{inb:List BSh}{bx:List Bx}{F F':List Fact}{args:List Sh}{xs:List X}{Γ:Nat->Gam}{mu:Option (Nat×Nat)}
variable {T:Tab} {n m:Nat} {ρ ρ':Rho}
mutual
def Sh.Is (T:Tab)(h:Int):Sh->X->Prop
 |.i k,x=>∃z,x=.v (.int k z)
 |.ir k lo hi,x=>∃z,x=.v (.int k z)/\lo<=z/\z<=hi
 |.k k c,x=>x=.v (.int k c)
 |.b,x=>∃b,x=.v (.bool b)
 |.s,x=>∃bs,x=.v (.string bs)/\(bs.size:Int)<=bT
 |.sr lo hi,x=>∃bs,x=.v (.string bs)/\lo<=(bs.size:Int)/\(bs.size:Int)<=hi
 |.sl sz k,x=>∃t es h',x=.sl t sz es/\0<=h'/\(es.length:Int)<=bT/\∀e,e∈es->D T h' k e
 |.slr sz k lo hi,x=>∃t es h',x=.sl t sz es/\0<=h'/\lo<=(es.length:Int)/\(es.length:Int)<=hi/\∀e,e∈es->D T h' k e
 |.slh sz k,x=>∃t es,x=.sl t sz es/\(es.length:Int)<=bT/\∀e,e∈es->D T h k e
 |.wW sz k lo hi,x=>∃t es,x=.sl t sz es/\lo<=(es.length:Int)/\(es.length:Int)<=hi/\∀e,e∈es->D T h k e
 |.rc l,x=>∃h' xs,x=.agg xs/\0<=h'/\IsL T h' l xs
 |.rcb lo hi l,x=>∃h' xs,x=.agg xs/\lo<=h'/\h'<=hi/\IsL T h' l xs
 |.rcs _ l,x=>∃h' xs,x=.agg xs/\IsL T h' l xs
 |.kb b,x=>x=.v (.bool b)
 |.ag l,x=>∃xs,x=.agg xs/\IsL T h l xs
 |.tu l,x=>∃xs,x=.tup xs/\IsL T h l xs
 |.x y,x=>x=y/\y.refs=[]
 |.oi,x=>x=.ifc\/x=.v .nilIface
 |.p i,x=>x=.ptr i 0 0
 |.mp i,x=>x=.mp i
 |.bs i,x=>∃l,x=.bs i 0 l/\(l:Int)<=bT
 |.bsr i lo hi,x=>∃l,x=.bs i 0 l/\lo<=(l:Int)/\(l:Int)<=hi
 |.dp l,x=>∃xs,x=.dp xs/\IsL T h l xs
 |.fn f l,x=>∃xs,x=.fn f xs/\IsL T h l xs
 |.el k,x=>∃xs h',x=.agg xs/\0<=h'/\D T h' k xs
def IsL (T:Tab)(h:Int):List Sh->List X->Prop
 |[],[]=>True
 |t::ts,x::xs=>t.Is T h x/\IsL T h ts xs
 |_,_=>False
end
mutual
def Sh.own:Sh->Bool
 |.rcs _ _=>false
 |.rc l=>F8 l
 |.rcb _ _ l=>F8 l
 |.ag l=>F8 l
 |.tu l=>F8 l
 |.dp l=>F8 l
 |.fn _ l=>F8 l
 |_=>true
def F8:List Sh->Bool
 |[]=>true
 |t::r=>t.own&&F8 r
end
def oK (ρ:Rho)(n:Nat)(z:Int):Rho:=fun s=>if s=n then z else ρ s
theorem bF (ρ:Rho)(n:Nat)(z:Int):More n ρ (n+1) (oK ρ n z):=⟨Nat.le_succ _,fun s hs=>by unfold oK;grind⟩
theorem cu (ρ:Rho)(n:Nat)(z:Int):(Lin.v ⟨n,0⟩ (oK ρ n z))=z:=by simp_all[Lin.v,oK]
theorem More.zero {ρ ρ':Rho}{n n':Nat}(h:More n ρ n' ρ')(hn:0<n)(h0:ρ 0=0):ρ' 0=0:=by rw [h.same 0 hn,h0]
def Fwd (T:Tab)(ρ:Rho)(n:Nat)(q:Bld)(x:X):Prop:=∃ρ',More n ρ q.2.1 ρ'/\aX q.2.1 ρ' q.2.2/\G T q.2.1 ρ' q.1 x
def zxN (T:Tab)(ρ:Rho)(n:Nat)(q:List AX×Nat×List Fact)(xs:List X):Prop:=∃ρ',More n ρ q.2.1 ρ'/\aX q.2.1 ρ' q.2.2/\GL T q.2.1 ρ' q.1 xs
theorem jK {n:Nat}{ρ:Rho}(h0:ρ 0=0)(hn:0<n)(h1:lo<=z)(h2:z<=hi):aX (n+1) (oK ρ n z) (bnd ⟨n,0⟩ (some lo) (some hi)):=
 wV ((bF ρ n z).zero hn h0) (Nat.succ_pos _) (qae _) (fun a e=>by grind[cu]) (fun b e=>by grind[cu])
theorem jB {n:Nat}{ρ:Rho}(h0:ρ 0=0)(hn:0<n)(h1:0<=z):(aj (.k 0) ⟨n,0⟩).ok (n+1) (oK ρ n z):=
 aJ.2 ⟨Nat.succ_pos _,qae _,by rw [cu,Lin.k_v ((bF ρ n z).zero hn h0)]<;>grind⟩
mutual
theorem Sh.fwd:∀(t:Sh) {h:Lin} {n:Nat} {ρ:Rho} {x:X},t.own=true->0<n->ρ 0=0->h.s<n->t.Is T (h.v ρ) x->Fwd T ρ n (t.bld h n) x
 |.i k,h,n,ρ,_,_,hn,h0,_,⟨z,rfl⟩=>⟨oK ρ n z,bF ρ n z,.nil,.i (qae _) (cu ρ n z).symm⟩
 |.ir k lo hi,h,n,ρ,_,_,hn,h0,_,⟨z,rfl,h1,h2⟩=>⟨oK ρ n z,bF ρ n z,jK h0 hn h1 h2,.i (qae _) (cu ρ n z).symm⟩
 |.k k c,h,n,ρ,x,_,hn,h0,_,hx=>by have hx:x=.v (.int k c):=hx;subst hx;exact ⟨ρ,.refl _ _,.nil,.i hn (Lin.k_v h0 c).symm⟩
 |.b,h,n,ρ,_,_,hn,h0,_,⟨b,rfl⟩=>⟨ρ,.refl _ _,.nil,.b (fun _=>.nil) (fun _=>.nil)⟩
 |.s,h,n,ρ,_,_,hn,h0,_,⟨bs,rfl,h1⟩=>⟨oK ρ n bs.size,bF _ _ _,jK h0 hn (by omega) h1,.s (qae _) (cu ρ n _).symm⟩
 |.sr lo hi,h,n,ρ,_,_,hn,h0,_,⟨bs,rfl,h1,h2⟩=>⟨oK ρ n bs.size,bF _ _ _,jK h0 hn h1 h2,.s (qae _) (cu ρ n _).symm⟩
 |.sl sz k,h,n,ρ,_,_,hn,h0,_,⟨t,es,h',rfl,h1,h2,h3⟩=>by have m1:=bF ρ n h';have z1:=m1.zero hn h0;have m2:=bF (oK ρ n h') (n+1) es.length;refine ⟨oK (oK ρ n h') (n+1) es.length,m1.trans m2,aX.cons (m2.fact (jB h0 hn h1)) (jK z1 (Nat.succ_pos _) (by omega) h2),.sl (by show n<n+1+1;omega) (qae _) trivial (cu _ _ _).symm ?_⟩;rw [m2.lin (qae n),cu];grind
 |.slr sz k lo hi,h,n,ρ,_,_,hn,h0,_,⟨t,es,h',rfl,h1,h2,h3,h4⟩=>by have m1:=bF ρ n h';have z1:=m1.zero hn h0;have m2:=bF (oK ρ n h') (n+1) es.length;refine ⟨oK (oK ρ n h') (n+1) es.length,m1.trans m2,aX.cons (m2.fact (jB h0 hn h1)) (jK z1 (Nat.succ_pos _) h2 h3),.sl (by show n<n+1+1;omega) (qae _) trivial (cu _ _ _).symm ?_⟩;rw [m2.lin (qae n),cu];grind
 |.slh sz k,h,n,ρ,_,_,hn,h0,hh,⟨t,es,rfl,h1,h2⟩=>by have m1:=bF ρ n es.length;refine ⟨oK ρ n es.length,m1,jK h0 hn (by omega) h1,.sl (qaB hh) (qae _) trivial (cu _ _ _).symm ?_⟩;rw [m1.lin hh]<;>grind
 |.wW sz k lo hi,h,n,ρ,_,_,hn,h0,hh,⟨t,es,rfl,h1,h2,h3⟩=>by have m1:=bF ρ n es.length;refine ⟨oK ρ n es.length,m1,jK h0 hn h1 h2,.sl (qaB hh) (qae _) trivial (cu _ _ _).symm ?_⟩;rw [m1.lin hh]<;>grind
 |.rc l,h,n,ρ,_,ho,hn,h0,hh,⟨h',xs,rfl,h1,h2⟩=>by have m1:=bF ρ n h';have hv:Lin.v ⟨n,0⟩ (oK ρ n h')=h':=cu _ _ _;obtain ⟨ρ2,m2,f2,g2⟩:=gG l (h:=⟨n,0⟩) (n:=n+1) (ρ:=oK ρ n h') ho (Nat.succ_pos _) (m1.zero hn h0) (qae _) (by rw [hv];omega);refine ⟨ρ2,m1.trans m2,aX.cons (m2.fact (jB h0 hn h1)) f2,.agg g2⟩
 |.rcb lo hi l,h,n,ρ,_,ho,hn,h0,hh,⟨h',xs,rfl,h1,h1',h2⟩=>by have m1:=bF ρ n h';have hv:Lin.v ⟨n,0⟩ (oK ρ n h')=h':=cu _ _ _;obtain ⟨ρ2,m2,f2,g2⟩:=gG l (h:=⟨n,0⟩) (n:=n+1) (ρ:=oK ρ n h') ho (Nat.succ_pos _) (m1.zero hn h0) (qae _) (by rw [hv];omega);refine ⟨ρ2,m1.trans m2,aX.append (m2.facts (jK h0 hn h1 h1')) f2,.agg g2⟩
 |.rcs _ _,_,_,_,_,ho,_,_,_,_=>by cases ho
 |.kb b,h,n,ρ,x,_,hn,h0,_,hx=>by have hx:x=.v (.bool b):=hx;subst hx;exact ⟨ρ,.refl _ _,.nil,zU b⟩
 |.ag l,h,n,ρ,_,ho,hn,h0,hh,⟨xs,rfl,h2⟩=>by obtain ⟨ρ2,m2,f2,g2⟩:=gG l (h:=h) (n:=n) (ρ:=ρ) ho hn h0 hh h2;exact ⟨ρ2,m2,f2,.agg g2⟩
 |.tu l,h,n,ρ,_,ho,hn,h0,hh,⟨xs,rfl,h2⟩=>by obtain ⟨ρ2,m2,f2,g2⟩:=gG l (h:=h) (n:=n) (ρ:=ρ) ho hn h0 hh h2;exact ⟨ρ2,m2,f2,.tup g2⟩
 |.x y,h,n,ρ,x,_,hn,h0,_,⟨h1,h2⟩=>by subst h1;exact ⟨ρ,.refl _ _,.nil,.x h2⟩
 |.oi,h,n,ρ,x,_,hn,h0,_,hx=>by
  rcases (hx:x=.ifc\/x=.v .nilIface) with rfl|rfl;·exact ⟨ρ,.refl _ _,.nil,.ifc⟩
  exact ⟨ρ,.refl _ _,.nil,.Gl⟩
 |.p i,h,n,ρ,x,_,hn,h0,_,hx=>by have hx:x=.ptr i 0 0:=hx;subst hx;exact ⟨ρ,.refl _ _,.nil,.ptr hn (Lin.k_v h0 0).symm⟩
 |.mp i,h,n,ρ,x,_,hn,h0,_,hx=>by have hx:x=.mp i:=hx;subst hx;exact ⟨ρ,.refl _ _,.nil,.mp⟩
 |.bs i,h,n,ρ,_,_,hn,h0,_,⟨l,rfl,h1⟩=>by have m1:=bF ρ n l;exact ⟨oK ρ n l,m1,jK h0 hn (by omega) h1,.bs (Nat.succ_pos _) (qae _) (by rw [Lin.k_v (m1.zero hn h0)];rfl) (cu _ _ _).symm⟩
 |.bsr i lo hi,h,n,ρ,_,_,hn,h0,_,⟨l,rfl,h2,h1⟩=>by have m1:=bF ρ n l;exact ⟨oK ρ n l,m1,jK h0 hn h2 h1,.bs (Nat.succ_pos _) (qae _) (by rw [Lin.k_v (m1.zero hn h0)];rfl) (cu _ _ _).symm⟩
 |.dp l,h,n,ρ,_,ho,hn,h0,hh,⟨xs,rfl,h2⟩=>by obtain ⟨ρ2,m2,f2,g2⟩:=gG l (h:=h) (n:=n) (ρ:=ρ) ho hn h0 hh h2;exact ⟨ρ2,m2,f2,.dp g2⟩
 |.fn f l,h,n,ρ,_,ho,hn,h0,hh,⟨xs,rfl,h2⟩=>by obtain ⟨ρ2,m2,f2,g2⟩:=gG l (h:=h) (n:=n) (ρ:=ρ) ho hn h0 hh h2;exact ⟨ρ2,m2,f2,.fn g2⟩
 |.el k,h,n,ρ,_,_,hn,h0,_,⟨xs,h',rfl,h1,h2⟩=>⟨oK ρ n h',bF _ _ _,aX.cons (jB h0 hn h1) .nil,.el (qae _) (by grind[cu])⟩
theorem gG:∀(l:List Sh) {h:Lin} {n:Nat} {ρ:Rho} {xs:List X},F8 l=true->0<n->ρ 0=0->h.s<n->IsL T (h.v ρ) l xs->zxN T ρ n (mO h n l) xs
 |[],h,n,ρ,[],_,_,_,_,_=>⟨ρ,.refl _ _,.nil,.nil⟩
 |t::r,h,n,ρ,x::xs,ho,hn,h0,hh,⟨h1,h2⟩=>by have ho:(t.own&&F8 r)=true:=ho;rw [qab] at ho;obtain ⟨ρ1,m1,f1,g1⟩:=Sh.fwd t ho.1 hn h0 hh h1;have hn':=Nat.lt_of_lt_of_le hn m1.le;obtain ⟨ρ2,m2,f2,g2⟩:=gG r (h:=h) (n:=(t.bld h n).2.1) (ρ:=ρ1) (xs:=xs) ho.2 hn' (m1.zero hn h0) (m1.lt hh) (by rw [m1.lin hh]<;>grind);exact ⟨ρ2,m1.trans m2,aX.append (m2.facts f1) f2,.cons (g1.more m2) g2⟩
end
theorem fO (h0:ρ 0=0)(h:aX n ρ (bnd l (some lo) (some hi))):lo<=l.v ρ/\l.v ρ<=hi:=by have h1:=aJ.1 (h (aj (.k lo) l) (by simp [bnd]));have h2:=aJ.1 (h (aj l (.k hi)) (by simp [bnd]))<;>grind[Lin.k_v]
theorem aX.left (h:aX n ρ (F++F')):aX n ρ F:=fun f hf=>h f (List.mem_append_left _ hf)
theorem aX.right (h:aX n ρ (F++F')):aX n ρ F':=fun f hf=>h f (List.mem_append_right _ hf)
theorem aX.tl {f:Fact}(h:aX n ρ (f::F)):aX n ρ F:=fun g hg=>h g (qam _ hg)
theorem jA (h0:ρ 0=0)(h:aX n ρ (aj (.k 0) l::F)):0<=l.v ρ:=by have h1:=aJ.1 (h _ (qap ..))<;>grind[Lin.k_v]
mutual
theorem Sh.bwd (h0:ρ 0=0):∀(t:Sh) {h:Lin} {k:Nat} {x:X},aX n ρ (t.bld h k).2.2->G T n ρ (t.bld h k).1 x->t.Is T (h.v ρ) x
 |.i k,_,_,_,_,.i (z:=z) _ _=>⟨z,rfl⟩
 |.ir k lo hi,_,_,_,hF,.i (z:=z) h1 h2=>by have:=fO h0 hF;exact ⟨z,rfl,by omega,by omega⟩
 |.k k c,_,_,_,_,.i (z:=z) h1 h2=>by rw [Lin.k_v h0] at h2;subst h2;rfl
 |.b,_,_,_,_,.b (t:=t) _ _=>⟨t,rfl⟩
 |.s,_,_,_,hF,.s (bs:=bs) h1 h2=>by have:=fO h0 hF;exact ⟨bs,rfl,by omega⟩
 |.sr lo hi,_,_,_,hF,.s (bs:=bs) h1 h2=>by have:=fO h0 hF;exact ⟨bs,rfl,by omega,by omega⟩
 |.sl sz k,_,_,_,hF,.sl (tt:=tt) (es:=es) h1 h2 h3 h4 h5=>by have a:=jA h0 hF;have b:=fO h0 hF.tl;exact ⟨tt,es,_,rfl,a,by omega,h5⟩
 |.slr sz k lo hi,_,_,_,hF,.sl (tt:=tt) (es:=es) h1 h2 h3 h4 h5=>by have a:=jA h0 hF;have b:=fO h0 hF.tl;exact ⟨tt,es,_,rfl,a,by omega,by omega,h5⟩
 |.slh sz k,_,_,_,hF,.sl (tt:=tt) (es:=es) h1 h2 h3 h4 h5=>by have b:=fO h0 hF;exact ⟨tt,es,rfl,by omega,h5⟩
 |.wW sz k lo hi,_,_,_,hF,.sl (tt:=tt) (es:=es) h1 h2 h3 h4 h5=>by have b:=fO h0 hF;exact ⟨tt,es,rfl,by omega,by omega,h5⟩
 |.rc l,_,_,_,hF,.agg (xs:=xs) g=>⟨_,xs,rfl,jA h0 hF,iE h0 l hF.tl g⟩
 |.rcb lo hi l,_,_,_,hF,.agg (xs:=xs) g=>⟨_,xs,rfl,(fO h0 hF.left).1,(fO h0 hF.left).2,iE h0 l hF.right g⟩
 |.rcs s l,_,_,_,hF,.agg (xs:=xs) g=>⟨_,xs,rfl,iE h0 l hF g⟩
 |.kb b,_,_,x,hF,g=>by
  have g:G T n ρ (cb b) x:=g;show x=.v (.bool b);cases b with
  |true=>
   cases g with
   |b g1 g2=>rename_i t;cases t with
    |true=>rfl
    |false=>exact (TV (g2 rfl)).elim
  |false=>
   cases g with
   |b g1 g2=>rename_i t;cases t with
    |false=>rfl
    |true=>exact (TV (g1 rfl)).elim
 |.ag l,_,_,_,hF,.agg (xs:=xs) g=>⟨xs,rfl,iE h0 l hF g⟩
 |.tu l,_,_,_,hF,.tup (xs:=xs) g=>⟨xs,rfl,iE h0 l hF g⟩
 |.x _,_,_,_,hF,.x g=>⟨rfl,g⟩
 |.oi,_,_,_,hF,.ifc=>.inl rfl
 |.oi,_,_,_,hF,.Gl=>.inr rfl
 |.p i,_,_,_,hF,.ptr (e':=e') h1 h2=>by
  rw [Lin.k_v h0] at h2;obtain rfl:e'=0:=by omega
  rfl
 |.mp i,_,_,_,hF,.mp=>rfl
 |.bs i,_,_,_,hF,.bs (o':=o') (l':=l') h1 h2 h3 h4=>by
  rw [Lin.k_v h0] at h3;obtain rfl:o'=0:=by omega
  have b:=fO h0 hF;exact ⟨l',rfl,by omega⟩
 |.bsr i lo hi,_,_,_,hF,.bs (o':=o') (l':=l') h1 h2 h3 h4=>by
  rw [Lin.k_v h0] at h3;obtain rfl:o'=0:=by omega
  have b:=fO h0 hF;exact ⟨l',rfl,by omega,by omega⟩
 |.dp l,_,_,_,hF,.dp (xs:=xs) g=>⟨xs,rfl,iE h0 l hF g⟩
 |.fn f l,_,_,_,hF,.fn (xs:=xs) g=>⟨xs,rfl,iE h0 l hF g⟩
 |.el k,_,_,_,hF,.el (xs:=xs) h1 h2=>⟨xs,_,rfl,jA h0 hF,h2⟩
theorem iE (h0:ρ 0=0):∀(l:List Sh) {h:Lin} {k:Nat} {xs:List X},aX n ρ (mO h k l).2.2->GL T n ρ (mO h k l).1 xs->IsL T (h.v ρ) l xs
 |[],_,_,_,_,.nil=>trivial
 |t::r,h,k,_,hF,.cons g1 g2=>⟨Sh.bwd h0 t hF.left g1,iE h0 r hF.right g2⟩
end
def BSh.Is (T:Tab):BSh->Bx->Prop
 |.var l,x=>∃xs,x=.var xs/\IsL T 0 l xs
 |.rcv l,x=>∃h xs,x=.var xs/\0<=h/\IsL T h l xs
 |.l9 lo hi l,x=>∃h xs,x=.var xs/\lo<=h/\h<=hi/\IsL T h l xs
 |.row sz k,x=>∃es h,x=.row sz es/\0<=h/\(es.length:Int)<=bT/\∀e,e∈es->D T h k e
 |.zbS sz k hi,x=>∃es h,x=.row sz es/\0<=h/\(es.length:Int)<=hi/\∀e,e∈es->D T h k e
 |.yX sz k _ _,x=>∃es h,x=.row sz es/\∀e,e∈es->D T h k e
 |.map _,x=>∃es,x=.map es
 |.dead,x=>x=.dead
def BIs (T:Tab):List BSh->List Bx->Prop
 |[],[]=>True
 |t::ts,x::xs=>t.Is T x/\BIs T ts xs
 |_,_=>False
def BSh.own:BSh->Bool
 |.var l=>F8 l
 |.rcv l=>F8 l
 |.l9 _ _ l=>F8 l
 |.row _ _=>true
 |.zbS _ _ hi=>leI 0 hi
 |.dead=>true
 |_=>false
theorem sQ:∀(l:List BSh) {n:Nat} {ρ:Rho} {xs:List Bx},l.all BSh.own=true->0<n->ρ 0=0->BIs T l xs->
  ∃ρ',More n ρ (qy n l).2.1 ρ'/\aX (qy n l).2.1 ρ' (qy n l).2.2/\GBs T (qy n l).2.1 ρ' (qy n l).1 xs
 |[],n,ρ,[],_,_,_,_=>⟨ρ,.refl _ _,.nil,.nil⟩
 |t::r,n,ρ,x::xs,ho,hn,h0,⟨h1,h2⟩=>by
  rw [List.all_cons,qab] at ho;have rest:∀{n':Nat} {ρ1:Rho},More n ρ n' ρ1->∃ρ',More n' ρ1 (qy n' r).2.1 ρ'/\aX (qy n' r).2.1 ρ' (qy n' r).2.2/\GBs T (qy n' r).2.1 ρ' (qy n' r).1 xs:=fun {n'} {ρ1} m1=>sQ r ho.2 (Nat.lt_of_lt_of_le hn m1.le) (m1.zero hn h0) h2
  match t,ho,h1 with
  |.var l,ho,⟨xs',e,k1⟩=>subst e;obtain ⟨ρ1,m1,f1,g1⟩:=gG l (h:=.k 0) (n:=n) (ρ:=ρ) ho.1 hn h0 hn (by rw [Lin.k_v h0];omega);obtain ⟨ρ2,m2,f2,g2⟩:=rest m1;exact ⟨ρ2,m1.trans m2,aX.append (m2.facts f1) f2,.cons (.var (g1.more m2)) g2⟩
  |.rcv l,ho,⟨h',xs',e,hp,k1⟩=>subst e;have m0:=bF ρ n h';obtain ⟨ρ1,m1,f1,g1⟩:=gG l (h:=⟨n,0⟩) (n:=n+1) (ρ:=oK ρ n h') ho.1 (Nat.succ_pos _) (m0.zero hn h0) (qae _) (by rw [cu];omega);obtain ⟨ρ2,m2,f2,g2⟩:=rest (m0.trans m1);exact ⟨ρ2,(m0.trans m1).trans m2,aX.cons ((m1.trans m2).fact (jB h0 hn hp)) (aX.append (m2.facts f1) f2),.cons (.var (g1.more m2)) g2⟩
  |.l9 lo hi l,ho,⟨h',xs',e,hp,hp',k1⟩=>subst e;have m0:=bF ρ n h';obtain ⟨ρ1,m1,f1,g1⟩:=gG l (h:=⟨n,0⟩) (n:=n+1) (ρ:=oK ρ n h') ho.1 (Nat.succ_pos _) (m0.zero hn h0) (qae _) (by rw [cu];omega);obtain ⟨ρ2,m2,f2,g2⟩:=rest (m0.trans m1);exact ⟨ρ2,(m0.trans m1).trans m2,aX.append ((m1.trans m2).facts (jK h0 hn hp hp')) (aX.append (m2.facts f1) f2),.cons (.var (g1.more m2)) g2⟩
  |.row sz k,ho,⟨es,h',e,hp,hl,k1⟩=>
   subst e;have m1:=bF ρ n h';have m2:=bF (oK ρ n h') (n+1) es.length;obtain ⟨ρ3,m3,f3,g3⟩:=rest (m1.trans m2);refine ⟨ρ3,(m1.trans m2).trans m3,aX.cons ((m2.trans m3).fact (jB h0 hn hp)) (aX.append (m3.facts (jK (m1.zero hn h0) (Nat.succ_pos _) (by omega) hl)) f3),.cons ?_ g3⟩;have g:GB T (n+2) (oK (oK ρ n h') (n+1) es.length) (.row sz k ⟨n,0⟩ ⟨n+1,0⟩) (.row sz es):=by refine .row (by grind) (qae _) (cu _ _ _).symm ?_;rw [m2.lin (qae n),cu];exact k1
   exact GB.more m3 g
  |.zbS sz k hi,ho,⟨es,h',e,hp,hl,k1⟩=>
   subst e;have m1:=bF ρ n h';have m2:=bF (oK ρ n h') (n+1) es.length;obtain ⟨ρ3,m3,f3,g3⟩:=rest (m1.trans m2);refine ⟨ρ3,(m1.trans m2).trans m3,aX.cons ((m2.trans m3).fact (jB h0 hn hp)) (aX.append (m3.facts (jK (m1.zero hn h0) (Nat.succ_pos _) (by omega) hl)) f3),.cons ?_ g3⟩;have g:GB T (n+2) (oK (oK ρ n h') (n+1) es.length) (.row sz k ⟨n,0⟩ ⟨n+1,0⟩) (.row sz es):=by refine .row (by grind) (qae _) (cu _ _ _).symm ?_;rw [m2.lin (qae n),cu];exact k1
   exact GB.more m3 g
  |.dead,ho,e=>have e:x=.dead:=e;subst e;obtain ⟨ρ2,m2,f2,g2⟩:=rest (.refl n ρ);exact ⟨ρ2,m2,f2,.cons .dead g2⟩
  |.yX _ _ _ _,ho,_=>cases ho.1
  |.map _,ho,_=>cases ho.1
theorem gI (h0:ρ 0=0):∀(l:List BSh) {k:Nat} {xs:List Bx},aX n ρ (qy k l).2.2->GBs T n ρ (qy k l).1 xs->BIs T l xs
 |[],_,_,_,.nil=>trivial
 |.var l::r,k,_,hF,.cons (.var g1) g2=>⟨⟨_,rfl,by have:=iE h0 l (h:=.k 0) hF.left g1<;>grind[Lin.k_v]⟩,gI h0 r hF.right g2⟩
 |.rcv l::r,k,_,hF,.cons (.var g1) g2=>⟨⟨_,_,rfl,jA h0 hF,iE h0 l hF.tl.left g1⟩,gI h0 r hF.tl.right g2⟩
 |.l9 lo hi l::r,k,_,hF,.cons (.var g1) g2=>⟨⟨_,_,rfl,(fO h0 hF.left).1,(fO h0 hF.left).2,iE h0 l hF.right.left g1⟩,gI h0 r hF.right.right g2⟩
 |.row sz kk::r,k,_,hF,.cons (.row (es:=es) h1 h2 h3 h4) g2=>by have a:=jA h0 hF;have b:=fO h0 hF.tl.left;exact ⟨⟨es,_,rfl,a,by omega,h4⟩,gI h0 r hF.tl.right g2⟩
 |.zbS sz kk hi::r,k,_,hF,.cons (.row (es:=es) h1 h2 h3 h4) g2=>by have a:=jA h0 hF;have b:=fO h0 hF.tl.left;exact ⟨⟨es,_,rfl,a,by omega,h4⟩,gI h0 r hF.tl.right g2⟩
 |.yX sz kk _ _::r,k,_,hF,.cons (.row (es:=es) h1 h2 h3 h4) g2=>⟨⟨es,_,rfl,h4⟩,gI h0 r hF g2⟩
 |.map _::r,k,_,hF,.cons (.map _) g2=>⟨⟨_,rfl⟩,gI h0 r hF g2⟩
 |.dead::r,k,_,hF,.cons .dead g2=>⟨rfl,gI h0 r hF g2⟩
theorem Sv :(mkC f args inb mu outs).outs=outs.map (F9 (mkC f args inb mu outs).m):=rfl
theorem Zp (ho:F8 args=true)(hob:inb.all BSh.own=true)(ha:IsL T 0 args xs)(hb:BIs T inb bx):
  ∃ρ,(mkC f args inb mu outs).Sat T ρ xs bx:=by
 obtain ⟨ρ1,m1,f1,g1⟩:=gG args (h:=.k 0) (n:=1) (ρ:=fun _=>(0:Int)) ho (by omega) rfl (by decide) (by rw [show Lin.v (.k 0) (fun _=>(0:Int))=0 from rfl];omega);have hn1:0<(mO (.k 0) 1 args).2.1:=Nat.lt_of_lt_of_le (by omega) m1.le;have z1:=m1.zero (by omega) rfl;obtain ⟨ρ2,m2,f2,g2⟩:=sQ inb hob hn1 z1 hb;exact ⟨ρ2,m2.zero hn1 z1,Nat.lt_of_lt_of_le hn1 m2.le,aX.append (m2.facts f1) f2,⟨[],qaa.2 rfl,.nil⟩,g1.more m2,g2⟩
def Says (T:Tab)(Γ:Nat->Gam)(f:FuncId)(xs:List X)(bx:List Bx)(outs:List (Sh×List BSh)):Prop:=
 ∃o,o∈outs/\∃r bx',o.1.Is T 0 r/\BIs T o.2 bx'/\∃B,∀N,B<=N->Γ N (.fn f) xs bx=some (r,bx')
theorem dU (hc:(mkC f args inb mu outs).Holds T Γ)(ho:F8 args=true)(hob:inb.all BSh.own=true)
  (ha:IsL T 0 args xs) (hb:BIs T inb bx):Says T Γ f xs bx outs:=by
 obtain ⟨ρ,hs⟩:=Zp (f:=f) (mu:=mu) (outs:=outs) ho hob ha hb;obtain ⟨o,hom,ρ',r,bx',m1,f1,g1,g2,B,hB⟩:=hc ρ xs bx hs;rw [Sv] at hom;obtain ⟨q,hq,rfl⟩:=qal.1 hom;have z:=m1.zero hs.pos hs.zero;refine ⟨q,hq,r,bx',?_,?_,B,hB⟩;·have:=Sh.bwd z q.1 (h:=.k 0) (aX.left f1) g1<;>grind[Lin.k_v]
 exact gI z q.2 (aX.right f1) g2
theorem dF (ho:∀o,o∈outs->o.1.own=true/\o.2.all BSh.own=true)
  (h:∀xs bx,IsL T 0 args xs->BIs T inb bx->Says T Γ f xs bx outs):(mkC f args inb mu outs).Holds T Γ:=by
 intro ρ xs bx hs;have ha:IsL T 0 args xs:=by have:=iE hs.zero args (h:=.k 0) (aX.left hs.pre) hs.args;rw [Lin.k_v hs.zero] at this;exact this
 have hb:=gI hs.zero inb (aX.right hs.pre) hs.inb;obtain ⟨q,hq,r,bx',h1,h2,B,hB⟩:=h xs bx ha hb;obtain ⟨w1,w2⟩:=ho q hq;obtain ⟨ρ1,m1,f1,g1⟩:=Sh.fwd q.1 (h:=.k 0) (n:=(mkC f args inb mu outs).m) (ρ:=ρ) w1 hs.pos hs.zero hs.pos (by rw [Lin.k_v hs.zero];omega);have hn1:=Nat.lt_of_lt_of_le hs.pos m1.le;obtain ⟨ρ2,m2,f2,g2⟩:=sQ q.2 w2 hn1 (m1.zero hs.pos hs.zero) h2;exact ⟨_,qal.2 ⟨q,hq,rfl⟩,ρ2,r,bx',m1.trans m2,aX.append (m2.facts f1) f2,g1.more m2,g2,B,hB⟩
end Go.Ab
namespace Go.Ab
open Go.Em
variable {c:Ctr}{ext:Ext}{tab:FuncId->Option Fun}{G L:List Ctr}{K:Names}{Γ:Nat->Gam}{orc:Orc}{T:Tab}
theorem ay.nil :ay T Γ []:=fun c hc=>by cases hc
theorem ay.one (h:c.Holds T Γ):ay T Γ [c]:=fun d hd=>by rw [qaa.1 hd];exact h
theorem ay.cons (h:c.Holds T Γ)(hL:ay T Γ L):ay T Γ (c::L):=fun d hd=>(qaj.1 hd).elim (fun e=>e▸h) (hL d)
def MB (ext:Ext)(G:List Ctr):Bool:=G.all fun c=>(ext c.f).isNone
theorem I5 (h:MB ext G=true):∀c,c∈G->ext c.f=none:=fun c hc=>by have:=qas.1 h c hc;exact Option.isNone_iff_eq_none.1 this
theorem Ti (hL:ay T (ah tab ext) L)(he:MB ext G=true)(h:G.all (fun c=>ER tab ⟨T,K,L,[],none,0⟩ orc c)=true):ay T (ah tab ext) G:=fun c hc=>zd8 (K:=K) (orc:=orc) hL (I5 he c hc) (qas.1 h c hc)
theorem zd7 (hL:ay T (ah tab ext) L)(he:MB ext G=true)(hm:G.all NH=true)(h:G.all (fun c=>ER tab ⟨T,K,L,G,c.mu,c.rank⟩ orc c)=true):ay T (ah tab ext) G:=
 VK hL (I5 he) hm h
theorem hoA (K:Names)(hL:ay T (ah tab ext) L)(he:MB ext G=true:=by kernel_rfl)(h:G.all (fun c=>ER tab ⟨T,K,L,[],none,0⟩ (iM []) c)=true:=by kernel_rfl):ay T (ah tab ext) G:=Ti hL he h
theorem hoB (K:Names)(orc:Orc)(hL:ay T (ah tab ext) L)(he:MB ext G=true:=by kernel_rfl)(h:G.all (fun c=>ER tab ⟨T,K,L,[],none,0⟩ orc c)=true:=by kernel_rfl):ay T (ah tab ext) G:=Ti hL he h
theorem hrA (K:Names)(orc:Orc)(hL:ay T (ah tab ext) L)(he:MB ext G=true:=by kernel_rfl)(hm:G.all NH=true:=by kernel_rfl)(h:G.all (fun c=>ER tab ⟨T,K,L,G,c.mu,c.rank⟩ orc c)=true:=by kernel_rfl):ay T (ah tab ext) G:=zd7 hL he hm h
theorem hpA:type_of%@ay.append:=@ay.append
end Go.Ab
namespace Go.Ab
open Go.Em
variable {c:Ctr}{ext:Ext}{f:FuncId}{tab:FuncId->Option Fun}{outs:List (Sh×List BSh)}{inb:List BSh}{bx:List Bx}{G L:List Ctr}{args:List Sh}{xs:List X}{K:Names}{Γ:Nat->Gam}{mu:Option (Nat×Nat)}
variable {T:Tab} {n m:Nat} {ρ ρ':Rho}
theorem zc5 (h0:ρ 0=0)(hp:0<(mkC f args inb mu outs).m)(h:(mkC f args inb mu outs).Res T Γ ρ xs bx):Says T Γ f xs bx outs:=by obtain ⟨o,hom,ρ',r,bx',m1,f1,g1,g2,B,hB⟩:=h;rw [Sv] at hom;obtain ⟨q,hq,rfl⟩:=qal.1 hom;have z:=m1.zero hp h0;refine ⟨q,hq,r,bx',?_,gI z q.2 (aX.right f1) g2,B,hB⟩;have:=Sh.bwd z q.1 (h:=.k 0) (aX.left f1) g1<;>grind[Lin.k_v]
theorem zcZ (ho:∀o,o∈outs->o.1.own=true/\o.2.all BSh.own=true)(h0:ρ 0=0)(hp:0<(mkC f args inb mu outs).m)(h:Says T Γ f xs bx outs):(mkC f args inb mu outs).Res T Γ ρ xs bx:=by obtain ⟨q,hq,r,bx',h1,h2,B,hB⟩:=h;obtain ⟨w1,w2⟩:=ho q hq;obtain ⟨ρ1,m1,f1,g1⟩:=Sh.fwd q.1 (h:=.k 0) (n:=(mkC f args inb mu outs).m) (ρ:=ρ) w1 hp h0 hp (by rw [Lin.k_v h0];omega);have hn1:=Nat.lt_of_lt_of_le hp m1.le;obtain ⟨ρ2,m2,f2,g2⟩:=sQ q.2 w2 hn1 (m1.zero hp h0) h2;exact ⟨_,qal.2 ⟨q,hq,rfl⟩,ρ2,r,bx',m1.trans m2,aX.append (m2.facts f1) f2,g1.more m2,g2,B,hB⟩
abbrev Part:=Ctr×Lin
theorem Gw (hL:ay T (ah tab ext) L)(he:MB ext G=true)(hm:G.all NH=true)
  (h:∀c,c∈G->∀ρ args inb,c.Sat T ρ args inb->∃q:Part,q.1.f=c.f/\(∃orc,ER tab ⟨T,K,L,G,some q.2,c.rank⟩ orc q.1=true)/\Nat.blt q.2.s q.1.m=true/\∃ρ',q.1.Sat T ρ' args inb/\(∀l,c.mu=some l->q.2.v ρ'<=l.v ρ)/\(q.1.Res T (ah tab ext) ρ' args inb->c.Res T (ah tab ext) ρ args inb)):ay T (ah tab ext) G:=by
 have key:∀(d:Nat),∀c,c∈G->c.Below T (ah tab ext) d:=by
  intro d;induction d with
  |zero=>intro c hc ρ args inb hs ⟨l,h1,h2,h3⟩<;>grind
  |succ d ih=>intro c hc ρ args inb hs ⟨l,h1,h2,h3⟩;obtain ⟨q,hqf,⟨orc,ho⟩,hb,ρ',hs',hle,hres⟩:=h c hc ρ args inb hs;have hv:=hle l h1;refine hres (QN (x:=⟨T,K,L,G,some q.2,c.rank⟩) (by grind[I5]) ho hs' ⟨hL,fun l' hl'=>?_⟩);dsimp only at hl';cases hl';refine ⟨dX hb,fun c' hc' ρ' args' inb' hs' ⟨l2,k1,k2,k3⟩=>ih c' hc' ρ' args' inb' hs' ⟨l2,k1,k2,by grind⟩⟩
 intro c hc ρ args inb hs;have hmu:=qas.1 hm c hc;unfold NH at hmu;cases h1:c.mu with
 |none=>grind
 |some l=>rw [h1] at hmu;rw [qab] at hmu;have h2:=aU hs.pre hmu.2;rw [Lin.k_v hs.zero] at h2;exact key ((16*l.v ρ+c.rank).toNat+1) c hc ρ args inb hs ⟨l,h1,h2,by omega⟩
theorem Mc {orc:Orc}{l:Lin}(hl:c.mu=some l)(hb:Nat.blt l.s c.m=true)(h:ER tab ⟨T,K,L,G,some l,c.rank⟩ orc c=true){args:List X}{inb:List Bx}(hs:c.Sat T ρ args inb):
  ∃q:Part,q.1.f=c.f/\(∃orc,ER tab ⟨T,K,L,G,some q.2,c.rank⟩ orc q.1=true)/\Nat.blt q.2.s q.1.m=true/\∃ρ',q.1.Sat T ρ' args inb/\(∀l,c.mu=some l->q.2.v ρ'<=l.v ρ)/\(q.1.Res T (ah tab ext) ρ' args inb->c.Res T (ah tab ext) ρ args inb):=
 ⟨(c,l),rfl,⟨orc,h⟩,hb,ρ,hs,fun l' e=>by grind,id⟩
theorem zmA {l:List Sh}{h':Int}{i:Nat}(ho:F8 l=true)(hob:inb.all BSh.own=true)(hh:0<=h')(ha:IsL T h' l xs)(hb:BIs T inb bx):
  ∃ρ,ρ 1=h'/\(mkC f [.p i,.rc l] inb mu outs).Sat T ρ [.ptr i 0 0,.agg xs] bx:=by
 have m0:=bF (fun _=>(0:Int)) 1 h';obtain ⟨ρ1,m1,f1,g1⟩:=gG l (h:=⟨1,0⟩) (n:=2) (ρ:=oK (fun _=>(0:Int)) 1 h') ho (by omega) (m0.zero (by omega) rfl) (by decide) (by rw [cu];omega);have z1:=m1.zero (by omega) (m0.zero (by omega) rfl);have hn1:0<(mO ⟨1,0⟩ 2 l).2.1:=Nat.lt_of_lt_of_le (by omega) m1.le;obtain ⟨ρ2,m2,f2,g2⟩:=sQ inb hob hn1 z1 hb;have z2:=m2.zero hn1 z1;have hlt:1<(mO ⟨1,0⟩ 2 l).2.1:=Nat.lt_of_lt_of_le (by omega) m1.le;have hm2:=Nat.lt_of_lt_of_le hn1 m2.le;refine ⟨ρ2,?_,z2,hm2,?_,⟨[],qaa.2 rfl,.nil⟩,?_,g2⟩;·rw [m2.same 1 hlt,m1.same 1 (by omega)]<;>simp_all[oK]
 ·refine aX.append ?_ f2;show aX (qy (mO ⟨1,0⟩ 2 l).2.1 inb).2.1 ρ2 ([]++((aj (.k 0) ⟨1,0⟩::(mO ⟨1,0⟩ 2 l).2.2)++[]));rw [List.nil_append,List.append_nil];refine aX.cons ?_ (m2.facts f1);refine aJ.2 ⟨hm2,Nat.lt_of_lt_of_le hlt m2.le,?_⟩;rw [Lin.k_v z2,m2.lin (show (⟨1,0⟩:Lin).s<_ from hlt),m1.lin (show (⟨1,0⟩:Lin).s<2 by decide),cu]<;>grind
 exact .cons (.ptr hm2 (Lin.k_v z2 0).symm) (.cons (.agg (g1.more m2)) .nil)
theorem Ctr.Sat.with {args:List X}{inb:List Bx}(h:c.Sat T ρ args inb){p:List Fact}(hp:aX c.m ρ p):(c.with [p]).Sat T ρ args inb:=
 ⟨h.zero,h.pos,h.pre,⟨p,qaa.2 rfl,hp⟩,h.args,h.inb⟩
end Go.Ab
namespace Go.Ab
open Go.Em
variable {f:FuncId}{inb:List BSh}{bx:List Bx}{args:List Sh}{xs:List X}{Γ:Nat->Gam}{mu:Option (Nat×Nat)}
variable {T:Tab} {n m:Nat} {ρ ρ':Rho}
abbrev Xd:=Sh×List BSh×List Fact
variable {outs:List Xd}
def zpW (m:Nat)(o:Xd):zfq:={F9 m (o.1,o.2.1) with F:=o.2.2++(F9 m (o.1,o.2.1)).F}
theorem yK {α β:Type}(f:α->β):∀l:List α,(l.map f).zip l=l.map fun x=>(f x,x)
 |[]=>rfl
 |x::r=>by rw [qaT,List.zip_cons_cons,yK f r];rfl
theorem vV :(dM f args inb mu outs).outs=outs.map (zpW (dM f args inb mu outs).m):=by show (((outs.map fun o=>(o.1,o.2.1)).map (F9 _)).zip outs).map _=_;rw [List.map_map,yK,List.map_map];rfl
theorem jT {q:Xd}{r:X}(hq:q∈outs)(h0:ρ 0=0)(hp:0<(dM f args inb mu outs).m)(w1:q.1.own=true)(hb:q.2.1=[])(h1:q.1.Is T 0 r)
  (hF:∀n' ρ',More (dM f args inb mu outs).m ρ n' ρ'->ρ' 0=0->G T n' ρ' (q.1.bld (.k 0) (dM f args inb mu outs).m).1 r->n'=(q.1.bld (.k 0) (dM f args inb mu outs).m).2.1->aX n' ρ' q.2.2)
  (h:∃B,∀N,B<=N->Γ N (.fn f) xs bx=some (r,[])):(dM f args inb mu outs).Res T Γ ρ xs bx:=by
 obtain ⟨sh,bs,F⟩:=q;dsimp only at hb w1 h1 hF;subst hb;obtain ⟨B,hB⟩:=h;obtain ⟨ρ1,m1,f1,g1⟩:=Sh.fwd sh (h:=.k 0) (n:=(dM f args inb mu outs).m) (ρ:=ρ) w1 hp h0 hp (by rw [Lin.k_v h0];exact h1);have hf:=hF _ ρ1 m1 (m1.zero hp h0) g1 rfl;refine ⟨zpW (dM f args inb mu outs).m (sh,[],F),by rw [vV];exact qal.2 ⟨_,hq,rfl⟩,ρ1,r,[],m1,aX.append hf (aX.append f1 .nil),g1,.nil,B,hB⟩
theorem BD (h0:ρ 0=0)(hp:0<(dM f args inb mu outs).m)(h:(dM f args inb mu outs).Res T Γ ρ xs bx):
  ∃q,q∈outs/\∃n' ρ' r bx',More (dM f args inb mu outs).m ρ n' ρ'/\ρ' 0=0/\aX n' ρ' q.2.2/\G T n' ρ' (q.1.bld (.k 0) (dM f args inb mu outs).m).1 r/\q.1.Is T 0 r/\BIs T q.2.1 bx'/\∃B,∀N,B<=N->Γ N (.fn f) xs bx=some (r,bx'):=by
 obtain ⟨o,hom,ρ',r,bx',m1,f1,g1,g2,B,hB⟩:=h;rw [vV] at hom;obtain ⟨q,hq,rfl⟩:=qal.1 hom;have z:=m1.zero hp h0;have f2:aX _ ρ' (F9 (dM f args inb mu outs).m (q.1,q.2.1)).F:=aX.right f1;refine ⟨q,hq,_,ρ',r,bx',m1,z,aX.left f1,g1,?_,gI z q.2.1 (aX.right f2) g2,B,hB⟩;have:=Sh.bwd z q.1 (h:=.k 0) (aX.left f2) g1;rw [Lin.k_v z] at this;exact this
theorem Jc (ho:F8 args=true)(hob:inb.all BSh.own=true)(ha:IsL T 0 args xs)(hb:BIs T inb bx):
  ∃ρ,(dM f args inb mu outs).Sat T ρ xs bx:=by
 obtain ⟨ρ,hs⟩:=Zp (f:=f) (mu:=mu) (outs:=outs.map fun o=>(o.1,o.2.1)) ho hob ha hb;exact ⟨ρ,hs.zero,hs.pos,hs.pre,hs.alts,hs.args,hs.inb⟩
end Go.Ab
