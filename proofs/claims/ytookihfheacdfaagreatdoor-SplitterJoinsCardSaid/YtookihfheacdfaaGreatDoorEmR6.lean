/- The abstract machine, asked with answers: where an outcome is not plain, it is told, and what was told is to be shown. -/
import Derived.Test.YtookihfheacdfaaGreatDoorEmR0
import Derived.Test.YtookihfheacdfaaGreatDoorEmR5
namespace Go.Em
inductive Ans where
 |b (t:Bool)
 |i (n:Int)
 |x (y:X)
 |c (y:X) (bx:List Bx) (fp:FP)
 |e (l:List X)
 |p (y:X)
 |app
 |fresh
 |mk
 |o (y:X) (out:List Bx)
 |r (y:X) (out:List Bx)
 |d (as:List X) (y:X)
 |cut
 |cutz
 |at
 |ld (cs:List X)
 |st (cs:List X)
 |g (y:X)
 |pm (es:List (Value×X))
def zsl (Γ:Gam)(σ:St)(y:X):I→Option ((X×List Bx×FP)×Prop)
 |.call own ref raw f args=>match σ.ev f,evs σ args with
  |some (.fn g caps),some zs=>match dataL σ.bx raw zs with
   |some as=>if !ref&&(!own&&!ref&&(ng (as++caps)).isEmpty)&&(Uw y&&((vT zs).isEmpty||y.plain)) then some ((y,σ.bx,⟨false,vT zs,[]⟩),Γ.pureD g (as++caps)=some y) else none
   |none=>none
  |_,_=>none
 |_=>none
theorem zob {Γ:Gam}{σ:St}{i:I}{y:X}{q:X×List Bx×FP}{p:Prop}(h:zsl Γ σ y i=some (q,p))(hp:p):eG Γ σ i=some q:=by
 unfold zsl at h
 split at h
 ·rename_i own ref raw f args
  split at h
  ·rename_i g caps zs hf ha
   split at h
   ·rename_i as hd
    split at h
    ·rename_i hc
     simp only [Option.some.injEq,Prod.mk.injEq] at h
     obtain ⟨rfl,rfl⟩:=h
     simp only [Bool.and_eq_true,Bool.not_eq_true'] at hc
     obtain ⟨⟨hr,⟨⟨h1,_⟩,h2⟩⟩,h3,h4⟩:=hc
     subst hr;subst h1
     simp only [eG,hf,ha,za2,Bool.false_eq_true,if_false,hd,h2,Bool.not_false,Bool.and_true,if_true,hp,h3,h4]
    ·simp at h
   ·simp at h
  ·simp at h
 ·simp at h
def zsr (Γ:Gam)(σ:St)(as:List X)(y:X):I→Option ((X×List Bx×FP)×Prop)
 |.call own ref raw f args=>match σ.ev f,evs σ args with
  |some (.fn g caps),some zs=>if !ref&&(!own&&!ref&&(ng (as++caps)).isEmpty)&&(Uw y&&((vT zs).isEmpty||y.plain)) then some ((y,σ.bx,⟨false,vT zs,[]⟩),dataL σ.bx raw zs=some as∧Γ.pureD g (as++caps)=some y) else none
  |_,_=>none
 |_=>none
theorem zpk {Γ:Gam}{σ:St}{i:I}{as:List X}{y:X}{q:X×List Bx×FP}{p:Prop}(h:zsr Γ σ as y i=some (q,p))(hp:p):eG Γ σ i=some q:=by
 unfold zsr at h
 split at h
 ·rename_i own ref raw f args
  split at h
  ·rename_i g caps zs hf ha
   split at h
   ·rename_i hc
    simp only [Option.some.injEq,Prod.mk.injEq] at h
    obtain ⟨rfl,rfl⟩:=h
    simp only [Bool.and_eq_true,Bool.not_eq_true'] at hc
    obtain ⟨⟨hr,⟨⟨h1,_⟩,h2⟩⟩,h3,h4⟩:=hc
    obtain ⟨hd,hp⟩:=hp
    subst hr;subst h1
    simp only [eG,hf,ha,za2,Bool.false_eq_true,if_false,hd,h2,Bool.not_false,Bool.and_true,if_true,hp,h3,h4]
   ·simp at h
  ·simp at h
 ·simp at h
def zst (σ:St):I→Option ((X×List Bx×FP)×Prop)
 |.app _ sz bytes s z=>match σ.ev s,σ.ev z with
  |some (.bs i off len),some y=>match σ.bx[i]?,Uu σ.bx y with
   |some (.row sz0 es),some (sz',new)=>if sz'==sz&&sz0==sz then
     some ((.bs σ.bx.length 0 (len+new.length),σ.bx.set i .dead++[.row sz (es.drop off++new)],⟨true,y.rows,[i,σ.bx.length]⟩),off+len=es.length∧roomOk (len+new.length) bytes=true∧memN i y.rows=false) else none
   |_,_=>none
  |_,_=>none
 |_=>none
theorem zpm {Γ:Gam}{σ:St}{i:I}{q:X×List Bx×FP}{p:Prop}(h:zst σ i=some (q,p))(hp:p):eG Γ σ i=some q:=by
 unfold zst at h
 split at h
 ·rename_i own sz bytes s z
  split at h
  ·rename_i i off len y hs hz
   split at h
   ·rename_i sz0 es sz' new hb hsrc
    split at h
    ·rename_i hc
     simp only [Option.some.injEq,Prod.mk.injEq] at h
     obtain ⟨rfl,rfl⟩:=h
     simp only [Bool.and_eq_true] at hc
     obtain ⟨h1,h2,h3⟩:=hp
     simp only [eG,hs,hz,hsrc,hb,hc.1,hc.2,Bool.not_true,Bool.false_eq_true,if_false,h1,beq_self_eq_true,h2,h3,Bool.not_false,Bool.and_true,if_true]
    ·simp at h
   ·simp at h
  ·simp at h
 ·simp at h
def zsq (σ:St):I→Option ((X×List Bx×FP)×Prop)
 |.app own sz bytes s z=>match σ.ev s,σ.ev z with
  |some (.sl true sz0 es),some y=>match Uu σ.bx y with
   |some (sz',new)=>if sz'==sz&&sz0==sz then
     (if own then some ((.bs σ.bx.length 0 (es.length+new.length),σ.bx++[.row sz (es++new)],⟨true,y.rows,[σ.bx.length]⟩),new.isEmpty=false∧roomOk (es.length+new.length) bytes=true)
      else some ((.sl false sz (es++new),σ.bx,⟨false,y.rows,[]⟩),roomOk (es.length+new.length) bytes=true)) else none
   |_=>none
  |_,_=>none
 |_=>none
theorem zpj {Γ:Gam}{σ:St}{i:I}{q:X×List Bx×FP}{p:Prop}(h:zsq σ i=some (q,p))(hp:p):eG Γ σ i=some q:=by
 unfold zsq at h
 split at h
 ·rename_i own sz bytes s z
  split at h
  ·rename_i sz0 es y hs hz
   split at h
   ·rename_i sz' new hsrc
    split at h
    ·rename_i hc
     simp only [Bool.and_eq_true] at hc
     split at h
     ·rename_i ho
      simp only [Option.some.injEq,Prod.mk.injEq] at h
      obtain ⟨rfl,rfl⟩:=h
      obtain ⟨h1,h2⟩:=hp
      simp only [eG,hs,hz,hsrc,hc.1,hc.2,ho,Bool.not_true,Bool.false_eq_true,if_false,h1,h2,Bool.and_self,if_true]
     ·rename_i ho
      simp only [Option.some.injEq,Prod.mk.injEq] at h
      obtain ⟨rfl,rfl⟩:=h
      have ho':own=false:=by simpa using ho
      simp only [eG,hs,hz,hsrc,hc.1,hc.2,ho',Bool.not_true,Bool.false_eq_true,if_false,hp,Bool.and_self,if_true]
    ·simp at h
   ·simp at h
  ·simp at h
 ·simp at h
def zsn (σ:St):I→Option ((X×List Bx×FP)×Prop)
 |.mksl bytes zero len cap=>match (σ.ev len).bind zp5,(σ.ev cap).bind zp5 with
  |some n,some c=>some ((.bs σ.bx.length 0 n,σ.bx++[.row zero.length (List.replicate n zero)],⟨true,[],[σ.bx.length]⟩),n≤c∧roomOk c bytes=true)
  |_,_=>none
 |_=>none
theorem zod {Γ:Gam}{σ:St}{i:I}{q:X×List Bx×FP}{p:Prop}(h:zsn σ i=some (q,p))(hp:p):eG Γ σ i=some q:=by
 unfold zsn at h
 split at h
 ·split at h
  ·rename_i n c hn hc
   simp only [Option.some.injEq,Prod.mk.injEq] at h
   obtain ⟨rfl,rfl⟩:=h
   obtain ⟨h1,h2⟩:=hp
   simp [eG,hn,hc,h1,h2]
  ·simp at h
 ·simp at h
mutual
theorem zqe (f:Nat→Nat):∀(x:X),x.refs=[]→x.ren f=x
 |.bs ..,h=>by simp [X.refs] at h
 |.ptr ..,h=>by simp [X.refs] at h
 |.yl ..,h=>by simp [X.refs] at h
 |.mp ..,h=>by simp [X.refs] at h
 |.ifc,_=>rfl
 |.fn g cs,h=>by simp only [X.ren,Py f cs (by simpa [X.refs] using h)]
 |.agg cs,h=>by simp only [X.ren,Py f cs (by simpa [X.refs] using h)]
 |.tup cs,h=>by simp only [X.ren,Py f cs (by simpa [X.refs] using h)]
 |.v _,_=>rfl
 |.sl ..,_=>rfl
 |.dp _,_=>rfl
theorem Py (f:Nat→Nat):∀(cs:List X),ng cs=[]→zmb f cs=cs
 |[],_=>rfl
 |x::r,h=>by
  simp only [ng,List.append_eq_nil_iff] at h
  simp only [zmb,zqe f x h.1,Py f r h.2]
end
theorem zlZ {Γ:Gam}{g:FuncId}{args:List X}{bx outb:List Bx}{r:X}(h0:ng args=[])(h:Γ (.fn g) args []=some (r,outb)):
  vU Γ (.fn g) args bx=some (r.ren (fun j=>bx.length+j),bx++outb.map (Bx.ren fun j=>bx.length+j),[]):=by
 have hs:reach bx Uj (ng args) []=[]:=by rw [h0];rfl
 have hp:ziX bx []=some []:=rfl
 have hb:(fun j=>if j<([]:List Nat).length then ([]:List Nat).getD j 0 else bx.length+(j-([]:List Nat).length))=fun j=>bx.length+j:=by funext j;simp
 unfold vU
 simp only [hs,hp,Py _ args h0,h]
 rw [hb]
 simp [zp9,h0,Gp]
def zsm (Γ:Gam)(σ:St)(y:X)(out:List Bx):I→Option ((X×List Bx×FP)×Prop)
 |.call own ref raw f args=>match σ.ev f,evs σ args with
  |some (.fn g caps),some zs=>match dataL σ.bx raw zs with
   |some as=>if own&&!ref&&(ng (as++caps)).isEmpty&&(vT zs).isEmpty then
     some ((y.ren (fun j=>σ.bx.length+j),σ.bx++out.map (Bx.ren fun j=>σ.bx.length+j),zeM [] [] σ.bx.length (σ.bx++out.map (Bx.ren fun j=>σ.bx.length+j)).length),Γ (.fn g) (as++caps) []=some (y,out)) else none
   |none=>none
  |_,_=>none
 |_=>none
theorem zoc {Γ:Gam}{σ:St}{i:I}{y:X}{out:List Bx}{q:X×List Bx×FP}{p:Prop}(h:zsm Γ σ y out i=some (q,p))(hp:p):eG Γ σ i=some q:=by
 unfold zsm at h
 split at h
 ·rename_i own ref raw f args
  split at h
  ·rename_i g caps zs hf ha
   split at h
   ·rename_i as hd
    split at h
    ·rename_i hc
     simp only [Option.some.injEq,Prod.mk.injEq] at h
     obtain ⟨rfl,rfl⟩:=h
     simp only [Bool.and_eq_true,Bool.not_eq_true'] at hc
     obtain ⟨⟨⟨h1,hr⟩,h2⟩,h3⟩:=hc
     subst hr;subst h1
     have:=zlZ (bx:=σ.bx) (List.isEmpty_iff.1 h2) hp
     simp only [eG,hf,ha,za2,Bool.false_eq_true,if_false,hd,Bool.not_true,Bool.false_and,Bool.false_or,h3,if_true,this]
    ·simp at h
   ·simp at h
  ·simp at h
 ·simp at h
def Ut (Γ:Gam)(fv:Fv)(args:List X)(bx:List Bx)(y:X)(outb:List Bx):Option ((X×List Bx×List Nat)×Prop):=
 let sel:=reach bx Uj (ng args) []
 if zp9 (ng args) sel then
  match ziX bx sel with
  |none=>none
  |some inb=>
   if sel.length≤outb.length then
    let back:=fun j=>if j<sel.length then sel.getD j 0 else bx.length+(j-sel.length)
    let outs:=outb.map (Bx.ren back)
    some ((y.ren back,Gp sel outs bx++outs.drop sel.length,sel),Γ fv (zmb (Zp · sel) args) inb=some (y,outb))
   else none
 else none
theorem wV {Γ:Gam}{fv:Fv}{args:List X}{bx:List Bx}{y:X}{outb:List Bx}{q:X×List Bx×List Nat}{p:Prop}(h:Ut Γ fv args bx y outb=some (q,p))(hp:p):vU Γ fv args bx=some q:=by
 unfold Ut at h
 unfold vU
 dsimp only at h ⊢
 split at h
 ·rename_i hs
  rw [if_pos hs]
  split at h
  ·simp at h
  ·rename_i inb hb
   split at h
   ·rename_i hl
    simp only [Option.some.injEq,Prod.mk.injEq] at h
    obtain ⟨rfl,rfl⟩:=h
    simp only [hb,hp,hl,if_true]
   ·simp at h
 ·simp at h
def zsk (Γ:Gam)(σ:St)(y:X)(out:List Bx):I→Option ((X×List Bx×FP)×Prop)
 |.call own ref raw f args=>match σ.ev f,evs σ args with
  |some (.yl i),some zs=>match dataL σ.bx raw zs with
   |some as=>if !ref&&(vT zs).isEmpty then
     match Ut Γ .yl (.yl i::as) σ.bx y out with
     |some ((x,bx',sel),p)=>some ((x,bx',zeM [] sel σ.bx.length bx'.length),p)
     |none=>none
    else none
   |none=>none
  |some (.fn g caps),some zs=>
   if ref then
    match Ut Γ (.fn g) (zs++caps) σ.bx y out with
    |some ((x,bx',sel),p)=>some ((x,bx',zeM [] sel σ.bx.length bx'.length),p)
    |none=>none
   else match dataL σ.bx raw zs with
   |some as=>if !(!own&&(ng (as++caps)).isEmpty)&&(vT zs).isEmpty then
     match Ut Γ (.fn g) (as++caps) σ.bx y out with
     |some ((x,bx',sel),p)=>some ((x,bx',zeM [] sel σ.bx.length bx'.length),p)
     |none=>none
    else none
   |none=>none
  |_,_=>none
 |_=>none
theorem zoa {Γ:Gam}{σ:St}{i:I}{y:X}{out:List Bx}{q:X×List Bx×FP}{p:Prop}(h:zsk Γ σ y out i=some (q,p))(hp:p):eG Γ σ i=some q:=by
 unfold zsk at h
 split at h
 ·rename_i own ref raw f args
  split at h
  ·rename_i j zs hf ha
   split at h
   ·rename_i as hd
    split at h
    ·rename_i hc
     simp only [Bool.and_eq_true,Bool.not_eq_true'] at hc
     obtain ⟨hr,hz⟩:=hc
     subst hr
     split at h
     ·rename_i x bx' sel p' hcr
      simp only [Option.some.injEq,Prod.mk.injEq] at h
      obtain ⟨rfl,rfl⟩:=h
      simp only [eG,hf,ha,za2,Bool.false_eq_true,if_false,hd,hz,Bool.or_true,if_true,wV hcr hp]
     ·simp at h
    ·simp at h
   ·simp at h
  ·rename_i g caps zs hf ha
   split at h
   ·rename_i hr
    subst hr
    split at h
    ·rename_i x bx' sel p' hcr
     simp only [Option.some.injEq,Prod.mk.injEq] at h
     obtain ⟨rfl,rfl⟩:=h
     simp only [eG,hf,ha,za2,if_true,Bool.not_true,Bool.and_false,Bool.false_and,Bool.false_eq_true,if_false,Bool.true_or,wV hcr hp]
    ·simp at h
   ·rename_i hr
    have hr':ref=false:=by simpa using hr
    subst hr'
    split at h
    ·rename_i as hd
     split at h
     ·rename_i hc
      simp only [Bool.and_eq_true,Bool.not_eq_true'] at hc
      obtain ⟨hn,hz⟩:=hc
      split at h
      ·rename_i x bx' sel p' hcr
       simp only [Option.some.injEq,Prod.mk.injEq] at h
       obtain ⟨rfl,rfl⟩:=h
       have hn':(!own&&!false&&(ng (as++caps)).isEmpty)=false:=by simpa using hn
       simp only [eG,hf,ha,za2,Bool.false_eq_true,if_false,hd,hn',hz,Bool.or_true,if_true,wV hcr hp]
      ·simp at h
     ·simp at h
    ·simp at h
  ·simp at h
 ·simp at h
def zss (σ:St):I→Option ((X×List Bx×FP)×Prop)
 |.slice sz x lo hi none=>match σ.ev x with
  |some (.sl t s es)=>match mF σ 0 lo,mF σ es.length hi with
   |some l,some h=>if s==sz then some ((.sl (t&&h==es.length) s ((es.take h).drop l),σ.bx,⟨false,[],[]⟩),l≤h∧h≤es.length) else none
   |_,_=>none
  |some (.bs i off len)=>match mF σ 0 lo,mF σ len hi with
   |some l,some h=>match σ.bx[i]? with
    |some (.row s _)=>if s==sz then some ((.bs i (off+l) (h-l),σ.bx,⟨false,[i],[]⟩),l<h∧h≤len) else none
    |_=>none
   |_,_=>none
  |_=>none
 |.sslice x lo hi=>match σ.ev x with
  |some (.v (.string s))=>match mF σ 0 lo,mF σ s.size hi with
   |some l,some h=>some ((.v (.string (s.extract l h)),σ.bx,⟨false,[],[]⟩),l≤h∧h≤s.size)
   |_,_=>none
  |_=>none
 |_=>none
theorem zpl {Γ:Gam}{σ:St}{i:I}{q:X×List Bx×FP}{p:Prop}(h:zss σ i=some (q,p))(hp:p):eG Γ σ i=some q:=by
 unfold zss at h
 split at h
 ·rename_i sz x lo hi
  split at h
  ·rename_i t s es hx
   split at h
   ·rename_i l hh hl hhi
    split at h
    ·rename_i hs
     simp only [Option.some.injEq,Prod.mk.injEq] at h
     obtain ⟨rfl,rfl⟩:=h
     obtain ⟨h1,h2⟩:=hp
     simp [eG,hx,hl,hhi,hs,h1,h2]
    ·simp at h
   ·simp at h
  ·rename_i i off len hx
   split at h
   ·rename_i l hh hl hhi
    split at h
    ·rename_i s es hb
     split at h
     ·rename_i hs
      simp only [Option.some.injEq,Prod.mk.injEq] at h
      obtain ⟨rfl,rfl⟩:=h
      obtain ⟨h1,h2⟩:=hp
      have h3:¬l=hh:=by omega
      have h4:l≤hh:=by omega
      simp [eG,hx,hl,hhi,hb,hs,h2,h3,h4]
     ·simp at h
    ·simp at h
   ·simp at h
  ·simp at h
 ·rename_i x lo hi
  split at h
  ·rename_i s hx
   split at h
   ·rename_i l hh hl hhi
    simp only [Option.some.injEq,Prod.mk.injEq] at h
    obtain ⟨rfl,rfl⟩:=h
    obtain ⟨h1,h2⟩:=hp
    simp [eG,hx,hl,hhi,h1,h2]
   ·simp at h
  ·simp at h
 ·simp at h
def zsh (σ:St):I→Option ((X×List Bx×FP)×Prop)
 |.slice sz x lo hi none=>match σ.ev x with
  |some (.bs _ _ len)=>match mF σ 0 lo,mF σ len hi with
   |some l,some h=>some ((.sl false sz [],σ.bx,⟨false,[],[]⟩),l=h∧h≤len)
   |_,_=>none
  |_=>none
 |_=>none
theorem zn7 {Γ:Gam}{σ:St}{i:I}{q:X×List Bx×FP}{p:Prop}(h:zsh σ i=some (q,p))(hp:p):eG Γ σ i=some q:=by
 unfold zsh at h
 split at h
 ·split at h
  ·rename_i hx
   split at h
   ·rename_i hl hhi
    simp only [Option.some.injEq,Prod.mk.injEq] at h
    obtain ⟨rfl,rfl⟩:=h
    obtain ⟨rfl,h2⟩:=hp
    simp [eG,hx,hl,hhi,h2]
   ·simp at h
  ·simp at h
 ·simp at h
def zsj (σ:St):I→Option ((X×List Bx×FP)×Prop)
 |.iaddr none sz z j=>match σ.ev z,(σ.ev j).bind zkO with
  |some (.bs i off len),some n=>match σ.bx[i]? with
   |some (.row s _)=>if s==sz then some ((.ptr i (off+n) 0,σ.bx,⟨false,[i],[]⟩),n<len) else none
   |_=>none
  |_,_=>none
 |.iaddr (some len) sz z j=>match σ.ev z,(σ.ev j).bind zkO with
  |some (.ptr i e o),some n=>some ((.ptr i e (o+n*sz),σ.bx,⟨false,[],[]⟩),n<len)
  |some (.dp cs),some n=>some ((.dp (cs.drop (n*sz)),σ.bx,⟨false,[],[]⟩),n<len)
  |_,_=>none
 |.sidx z j=>match σ.ev z,(σ.ev j).bind zkO with
  |some (.v (.string s)),some n=>some ((.v (.int .u8 ((s[n]?).getD 0).toNat),σ.bx,⟨false,[],[]⟩),n<s.size)
  |_,_=>none
 |.bin .add a b=>match σ.ev a,σ.ev b with
  |some (.v (.string s)),some (.v (.string t))=>some ((.v (.string (s++t)),σ.bx,⟨false,[],[]⟩),s.size+t.size≤9223372036854775807)
  |_,_=>none
 |_=>none
theorem zn9 {Γ:Gam}{σ:St}{i:I}{q:X×List Bx×FP}{p:Prop}(h:zsj σ i=some (q,p))(hp:p):eG Γ σ i=some q:=by
 unfold zsj at h
 split at h
 ·split at h
  ·rename_i hz hj
   split at h
   ·rename_i hb
    split at h
    ·rename_i hs
     simp only [Option.some.injEq,Prod.mk.injEq] at h
     obtain ⟨rfl,rfl⟩:=h
     simp [eG,hz,hj,hb,hs,hp]
    ·simp at h
   ·simp at h
  ·simp at h
 ·split at h
  ·rename_i hz hj
   simp only [Option.some.injEq,Prod.mk.injEq] at h
   obtain ⟨rfl,rfl⟩:=h
   simp [eG,hz,hj,hp]
  ·rename_i hz hj
   simp only [Option.some.injEq,Prod.mk.injEq] at h
   obtain ⟨rfl,rfl⟩:=h
   simp [eG,hz,hj,hp]
  ·simp at h
 ·split at h
  ·rename_i s n hz hj
   simp only [Option.some.injEq,Prod.mk.injEq] at h
   obtain ⟨rfl,rfl⟩:=h
   have:s[n]?=some s[n]:=getElem?_pos s n hp
   simp [eG,hz,hj,this]
  ·simp at h
 ·split at h
  ·rename_i s t ha hb
   simp only [Option.some.injEq,Prod.mk.injEq] at h
   obtain ⟨rfl,rfl⟩:=h
   have hn:¬(((s.size+t.size:Nat):Int)>IntKind.i64.max):=by
    have:IntKind.i64.max=9223372036854775807:=rfl
    omega
   have hv:zp6 .add (.string s) (.string t)=some (.string (s++t)):=by
    show nK (Op.stringOp .add s t)=_
    unfold Op.stringOp
    dsimp only
    rw [if_neg hn]
    rfl
   simp only [eG,ha,hb,hv,Option.map_some]
  ·simp at h
 ·simp at h
def zso (σ:St)(cs:List X):I→Option ((X×List Bx×FP)×Prop)
 |.load m a=>match σ.ev a with
  |some (.ptr i e o)=>match σ.bx[i]? with
   |some (.row _ es)=>match (match m with
     |none=>(cs.drop o).head?
     |some m=>if ((cs.drop o).take m).length==m then some (.agg ((cs.drop o).take m)) else none) with
    |some x=>some ((x,σ.bx,⟨false,[i],[]⟩),es[e]?=some cs)
    |none=>none
   |_=>none
  |_=>none
 |_=>none
theorem zoe {Γ:Gam}{σ:St}{cs:List X}{i:I}{q:X×List Bx×FP}{p:Prop}(h:zso σ cs i=some (q,p))(hp:p):eG Γ σ i=some q:=by
 unfold zso at h
 split at h
 ·split at h
  ·rename_i ha
   split at h
   ·rename_i hb
    split at h
    ·rename_i x hx
     simp only [Option.some.injEq,Prod.mk.injEq] at h
     obtain ⟨rfl,rfl⟩:=h
     rename_i m _ _ _ _ _ _ _ _ _
     simp only [eG,ha,zev,zaT,hb,hp,Option.map_some]
     cases m with
     |none=>dsimp only at hx ⊢;rw [hx];rfl
     |some m=>dsimp only at hx ⊢;rw [hx];rfl
    ·simp at h
   ·simp at h
  ·simp at h
 ·simp at h
def zsi (σ:St)(cs:List X):I→Option ((X×List Bx×FP)×Prop)
 |.store n a x=>match σ.ev a,σ.ev x with
  |some (.ptr i e o),some y=>match σ.bx[i]? with
   |some (.row sz es)=>if y.ok1&&y.cells.length==n&&(ng y.cells).isEmpty then
     match splice cs o y.cells with
     |some cs'=>some ((undefX,σ.bx.set i (.row sz (es.set e cs')),⟨true,[],[i]⟩),es[e]?=some cs)
     |none=>none
    else none
   |_=>none
  |_,_=>none
 |_=>none
theorem zn8 {Γ:Gam}{σ:St}{cs:List X}{i:I}{q:X×List Bx×FP}{p:Prop}(h:zsi σ cs i=some (q,p))(hp:p):eG Γ σ i=some q:=by
 unfold zsi at h
 split at h
 ·split at h
  ·rename_i ha hx
   split at h
   ·rename_i hb
    split at h
    ·rename_i hc
     split at h
     ·rename_i cs' hs
      simp only [Option.some.injEq,Prod.mk.injEq] at h
      obtain ⟨rfl,rfl⟩:=h
      simp only [Bool.and_eq_true] at hc
      simp only [eG,ha,hx,Jp,hb,hp,hc.1.1,hc.1.2,hc.2,Bool.and_self,if_true,hs,Option.map_some,D7]
     ·simp at h
    ·simp at h
   ·simp at h
  ·simp at h
 ·simp at h
def zsp (σ:St)(y:X):I→Option ((X×List Bx×FP)×Prop)
 |.zrj kk ok zero m k=>match σ.ev m,σ.ev k with
  |some (.mp i),some (.v kv)=>match σ.bx[i]? with
   |some (.map es)=>if XZ kk kv then some ((y,σ.bx,⟨false,[i],[]⟩),zkK ok zero kv es=some y) else none
   |_=>none
  |_,_=>none
 |_=>none
theorem zpi {Γ:Gam}{σ:St}{i:I}{y:X}{q:X×List Bx×FP}{p:Prop}(h:zsp σ y i=some (q,p))(hp:p):eG Γ σ i=some q:=by
 unfold zsp at h
 split at h
 ·split at h
  ·rename_i hm hk
   split at h
   ·rename_i hb
    split at h
    ·rename_i hc
     simp only [Option.some.injEq,Prod.mk.injEq] at h
     obtain ⟨rfl,rfl⟩:=h
     simp only [eG,hm,hk,hb,hc,if_true,hp,Option.map_some]
    ·simp at h
   ·simp at h
  ·simp at h
 ·simp at h
def zq6 (σ:St)(es':List (Value×X)):I→Option ((X×List Bx×FP)×Prop)
 |.zqX kk m k v=>match σ.ev m,σ.ev k,σ.ev v with
  |some (.mp i),some (.v kv),some x=>match σ.bx[i]? with
   |some (.map es)=>if XZ kk kv&&x.ok1&&Uw x then some ((undefX,σ.bx.set i (.map es'),⟨true,[],[i]⟩),znD kv x es=some es') else none
   |_=>none
  |_,_,_=>none
 |_=>none
theorem zl0 {Γ:Gam}{σ:St}{i:I}{es':List (Value×X)}{q:X×List Bx×FP}{p:Prop}(h:zq6 σ es' i=some (q,p))(hp:p):eG Γ σ i=some q:=by
 unfold zq6 at h
 split at h
 ·split at h
  ·rename_i hm hk hv
   split at h
   ·rename_i hb
    split at h
    ·rename_i hc
     simp only [Option.some.injEq,Prod.mk.injEq] at h
     obtain ⟨rfl,rfl⟩:=h
     simp only [eG,hm,hk,hv,hb,hc,if_true,hp,Option.map_some]
    ·simp at h
   ·simp at h
  ·simp at h
 ·simp at h
def zq7 (Γ:Gam)(σ:St)(i:I):Ans→Option ((X×List Bx×FP)×Prop)
 |.b t'=>match eG Γ σ i with
  |some (.v (.bool t),bx,fp)=>some ((.v (.bool t'),bx,fp),t=t')
  |_=>none
 |.i n'=>match eG Γ σ i with
  |some (.v (.int k n),bx,fp)=>some ((.v (.int k n'),bx,fp),n=n')
  |_=>none
 |.x y'=>match eG Γ σ i with
  |some (y,bx,fp)=>some ((y',bx,fp),y=y')
  |none=>none
 |.c y bx fp=>match i with
  |.call own ref raw f args=>match σ.ev f,evs σ args with
   |some f,some as=>some ((y,bx,fp),za2 Γ own ref raw f as σ.bx=some (y,bx,fp))
   |_,_=>none
  |_=>none
 |.e l=>match i with
  |.iaddr none sz z j=>match σ.ev z,(σ.ev j).bind zkO with
   |some (.sl _ s es),some n=>if s==sz then some ((.dp l,σ.bx,⟨false,[],[]⟩),es[n]?=some l) else none
   |_,_=>none
  |_=>none
 |.p y=>zsl Γ σ y i
 |.d as y=>zsr Γ σ as y i
 |.app=>zst σ i
 |.fresh=>zsq σ i
 |.mk=>zsn σ i
 |.o y out=>zsm Γ σ y out i
 |.r y out=>zsk Γ σ y out i
 |.cut=>zss σ i
 |.cutz=>zsh σ i
 |.at=>zsj σ i
 |.ld cs=>zso σ cs i
 |.st cs=>zsi σ cs i
 |.g y=>zsp σ y i
 |.pm es=>zq6 σ es i
theorem zqg {Γ:Gam}{g:FuncId}{as:List X}{x y:X}{bx:List Bx}(h:Γ (.fn g) as []=some (x,bx))(hd:x.data bx false=some y):Γ.pureD g as=some y:=by
 simp only [Gam.pureD,h,hd]
theorem zof {Γ:Gam}{σ:St}{i:I}{a:Ans}{q:X×List Bx×FP}{p:Prop}(h:zq7 Γ σ i a=some (q,p))(hp:p):eG Γ σ i=some q:=by
 cases a with
 |p y=>exact zob h hp
 |d as y=>exact zpk h hp
 |app=>exact zpm h hp
 |fresh=>exact zpj h hp
 |mk=>exact zod h hp
 |o y out=>exact zoc h hp
 |r y out=>exact zoa h hp
 |cut=>exact zpl h hp
 |cutz=>exact zn7 h hp
 |«at»=>exact zn9 h hp
 |ld cs=>exact zoe h hp
 |st cs=>exact zn8 h hp
 |g y=>exact zpi h hp
 |pm es=>exact zl0 h hp
 |b t'=>
  simp only [zq7] at h
  split at h
  ·rename_i t bx fp hs
   simp only [Option.some.injEq,Prod.mk.injEq] at h
   obtain ⟨rfl,rfl⟩:=h
   rw [hs,hp]
  ·simp at h
 |i n'=>
  simp only [zq7] at h
  split at h
  ·rename_i k n bx fp hs
   simp only [Option.some.injEq,Prod.mk.injEq] at h
   obtain ⟨rfl,rfl⟩:=h
   rw [hs,hp]
  ·simp at h
 |x y'=>
  simp only [zq7] at h
  split at h
  ·rename_i y bx fp hs
   simp only [Option.some.injEq,Prod.mk.injEq] at h
   obtain ⟨rfl,rfl⟩:=h
   rw [hs,hp]
  ·simp at h
 |c y bx fp=>
  simp only [zq7] at h
  split at h
  ·split at h
   ·rename_i f as hf ha
    simp only [Option.some.injEq,Prod.mk.injEq] at h
    obtain ⟨rfl,rfl⟩:=h
    simp only [eG,hf,ha];exact hp
   ·simp at h
  ·simp at h
 |e l=>
  simp only [zq7] at h
  split at h
  ·split at h
   ·rename_i t s es n hz hj
    split at h
    ·rename_i hs
     simp only [Option.some.injEq,Prod.mk.injEq] at h
     obtain ⟨rfl,rfl⟩:=h
     simp only [eG,hz,hj,hs,if_true,hp,Option.map_some]
    ·simp at h
   ·simp at h
  ·simp at h
def zrI:List (Nat×Ans)→Option Nat→Option Ans
 |_,none=>none
 |[],some _=>none
 |(k,a)::r,some d=>if k==d then some a else zrI r (some d)
def zrJ (i:Ins):Option Nat:=match i.dst with
 |some d=>some d
 |none=>match i.op with
  |.store _ (.t a) _=>some (a+1000000)
  |.zqX _ (.t a) _ _=>some (a+1000000)
  |_=>none
def goA (Γ:Gam)(ans:List (Nat×Ans))(i:Ins)(σ:St):Option (St×FP×List Prop):=
 match zrI ans (zrJ i) with
 |none=>match XT Γ i σ with
  |none=>none
  |some (σ',fp)=>some (σ',fp,[])
 |some a=>match zq7 Γ σ i.op a with
  |none=>none
  |some ((y,bx,fp),p)=>some (⟨za1 i.dst y σ.tm,bx⟩,fp,[p])
def allP:List Prop→Prop
 |[]=>True
 |p::r=>p∧allP r
theorem rM:∀{l m:List Prop},allP (l++m)↔allP l∧allP m
 |[],m=>by simp [allP]
 |p::r,m=>by simp [allP,rM (l:=r),and_assoc]
theorem zkR {Γ:Gam}{ans:List (Nat×Ans)}{i:Ins}{σ σ':St}{fp:FP}{ps:List Prop}(h:goA Γ ans i σ=some (σ',fp,ps))(hp:allP ps):XT Γ i σ=some (σ',fp):=by
 unfold goA at h
 split at h
 ·split at h
  ·simp at h
  ·rename_i hs
   simp only [Option.some.injEq,Prod.mk.injEq] at h
   obtain ⟨rfl,rfl,_⟩:=h
   exact hs
 ·split at h
  ·simp at h
  ·rename_i hs
   simp only [Option.some.injEq,Prod.mk.injEq] at h
   obtain ⟨rfl,rfl,rfl⟩:=h
   simp only [XT,zof hs hp.1]
def stepA (Γ:Gam)(ans:List (Nat×Ans))(i:Ins)(σ:St):Option (St×FP×List Prop):=
 match i.g with
 |none=>goA Γ ans i σ
 |some (s,want)=>match lk σ.tm s with
  |some (.v (.bool b))=>if b==want then goA Γ ans i σ else some (⟨za1 i.dst undefX σ.tm,σ.bx⟩,⟨false,[],[]⟩,[])
  |some (.v (.tuple _))=>some (⟨za1 i.dst undefX σ.tm,σ.bx⟩,⟨false,[],[]⟩,[])
  |_=>none
theorem zk4 {Γ:Gam}{ans:List (Nat×Ans)}{i:Ins}{σ σ':St}{fp:FP}{ps:List Prop}(h:stepA Γ ans i σ=some (σ',fp,ps))(hp:allP ps):step Γ i σ=some (σ',fp):=by
 unfold stepA at h
 unfold step
 split at h
 ·rename_i hg
  rw [hg];exact zkR h hp
 ·rename_i s want hg
  rw [hg]
  dsimp only
  split at h
  ·rename_i b hb
   rw [hb];dsimp only
   by_cases hw:(b==want)=true
   ·rw [if_pos hw] at h ⊢;exact zkR h hp
   ·rw [if_neg hw] at h ⊢
    simp only [Option.some.injEq,Prod.mk.injEq] at h
    obtain ⟨rfl,rfl,_⟩:=h
    rfl
  ·rename_i t hb
   rw [hb]
   simp only [Option.some.injEq,Prod.mk.injEq] at h
   obtain ⟨rfl,rfl,_⟩:=h
   rfl
  ·simp at h
def stepsA (Γ:Gam)(ans:List (Nat×Ans)):List Ins→St→Option (St×List FP×List Prop)
 |[],σ=>some (σ,[],[])
 |i::r,σ=>match stepA Γ ans i σ with
  |none=>none
  |some (σ',fp,ps)=>match stepsA Γ ans r σ' with
   |none=>none
   |some (zp7,fps,qs)=>some (zp7,fp::fps,ps++qs)
theorem Zu {Γ:Gam}{ans:List (Nat×Ans)}:∀{l:List Ins} {σ σ':St} {fps:List FP} {ps:List Prop},stepsA Γ ans l σ=some (σ',fps,ps)→allP ps→steps Γ l σ=some (σ',fps)
 |[],σ,σ',fps,ps,h,_=>by
  simp only [stepsA,Option.some.injEq,Prod.mk.injEq] at h
  obtain ⟨rfl,rfl,_⟩:=h
  rfl
 |i::r,σ,σ',fps,ps,h,hp=>by
  simp only [stepsA] at h
  split at h
  ·simp at h
  ·rename_i σ1 fp ps1 h1
   split at h
   ·simp at h
   ·rename_i σ2 ztd qs h2
    simp only [Option.some.injEq,Prod.mk.injEq] at h
    obtain ⟨rfl,rfl,rfl⟩:=h
    obtain ⟨hp1,hp2⟩:=rM.1 hp
    simp only [steps,zk4 h1 hp1,Zu h2 hp2,Option.map_some]
mutual
def X.ends (i:Nat):X→List Nat
 |.bs j off len=>if j==i then [off+len] else []
 |.agg cs=>zfH i cs
 |.tup cs=>zfH i cs
 |.fn _ cs=>zfH i cs
 |_=>[]
def zfH (i:Nat):List X→List Nat
 |[]=>[]
 |x::r=>x.ends i++zfH i r
end
def Bx.ends (i:Nat):Bx→List Nat
 |.var cs=>zfH i cs
 |.loop _ _ tm _ _ _=>zfH i (tm.map (·.2))
 |_=>[]
def zkZ (i:Nat):List Bx→List Nat
 |[]=>[]
 |b::r=>b.ends i++zkZ i r
mutual
theorem zk1 {i n:Nat}:∀(x:X),(∀e,e∈x.ends i→e≤n)→x.within i n=true
 |.bs j off len,h=>by
  simp only [X.within,Bool.or_eq_true,Bool.not_eq_true',decide_eq_true_eq]
  cases hj:(j==i) with
  |false=>exact .inl rfl
  |true=>exact .inr (h _ (by simp [X.ends,hj]))
 |.agg cs,h=>by simp only [X.within];exact rQ cs (by simpa [X.ends] using h)
 |.tup cs,h=>by simp only [X.within];exact rQ cs (by simpa [X.ends] using h)
 |.fn _ cs,h=>by simp only [X.within];exact rQ cs (by simpa [X.ends] using h)
 |.ptr ..,_=>rfl
 |.yl _,_=>rfl
 |.mp _,_=>rfl
 |.ifc,_=>rfl
 |.v _,_=>rfl
 |.sl ..,_=>rfl
 |.dp _,_=>rfl
theorem rQ {i n:Nat}:∀(cs:List X),(∀e,e∈zfH i cs→e≤n)→wX i n cs=true
 |[],_=>rfl
 |x::r,h=>by
  simp only [wX,Bool.and_eq_true]
  exact ⟨zk1 x fun e he=>h e (by simp [zfH,he]),rQ r fun e he=>h e (by simp [zfH,he])⟩
end
theorem zpY {i n:Nat}:∀(bx:List Bx),(∀e,e∈zkZ i bx→e≤n)→bx.all (Bx.within i n)=true
 |[],_=>rfl
 |b::r,h=>by
  simp only [List.all_cons,Bool.and_eq_true]
  refine ⟨?_,zpY r fun e he=>h e (by simp [zkZ,he])⟩
  have hb:∀e,e∈b.ends i→e≤n:=fun e he=>h e (by simp [zkZ,he])
  cases b with
  |var cs=>exact rQ cs hb
  |loop st p tm ps a c=>exact rQ _ hb
  |row=>rfl
  |map=>rfl
  |dead=>rfl
def zqZ (n:Nat):List Nat→List Prop
 |[]=>[]
 |e::r=>(e≤n)::zqZ n r
theorem zkM {n:Nat}:∀{l:List Nat},allP (zqZ n l)→∀e,e∈l→e≤n
 |[],_,e,he=>by simp at he
 |a::r,h,e,he=>by
  rcases List.mem_cons.1 he with rfl|he
  ·exact h.1
  ·exact zkM h.2 e he
def zlj (i:Nat)(σ:St):Option (St×List Prop):=
 match σ.bx[i]? with
 |some (.row sz es)=>some (⟨zrT i sz es σ.tm,(σ.bx.map (Bx.frz i sz es)).set i .dead⟩,zqZ es.length (zfH i (σ.tm.map (·.2))++zkZ i σ.bx))
 |_=>none
theorem ziJ {i:Nat}{σ σ':St}{ps:List Prop}(h:zlj i σ=some (σ',ps))(hp:allP ps):freeze i σ=some σ':=by
 unfold zlj at h
 unfold freeze
 split at h
 ·rename_i sz es hb
  simp only [Option.some.injEq,Prod.mk.injEq] at h
  obtain ⟨rfl,rfl⟩:=h
  have h1:=zkM hp
  have:zl6 σ i es.length=true:=by
   simp only [zl6,Bool.and_eq_true]
   exact ⟨rQ _ fun e he=>h1 e (by simp [he]),zpY _ fun e he=>h1 e (by simp [he])⟩
  simp only [hb,this,if_true]
 ·simp at h
def Gz:List Nat→St→Option (St×List Prop)
 |[],σ=>some (σ,[])
 |i::r,σ=>match σ.bx[i]? with
  |some (.row _ _)=>match zlj i σ with
   |some (σ',ps)=>match Gz r σ' with
    |some (zp7,qs)=>some (zp7,ps++qs)
    |none=>none
   |none=>none
  |_=>Gz r σ
theorem vW:∀{l:List Nat} {σ σ':St} {ps:List Prop},Gz l σ=some (σ',ps)→allP ps→freezes l σ=some σ'
 |[],σ,σ',ps,h,_=>by
  simp only [Gz,Option.some.injEq,Prod.mk.injEq] at h
  obtain ⟨rfl,_⟩:=h;rfl
 |i::r,σ,σ',ps,h,hp=>by
  simp only [Gz] at h
  simp only [freezes]
  split at h
  ·rename_i hb
   split at h
   ·rename_i σ1 ps1 h1
    split at h
    ·rename_i σ2 qs h2
     simp only [Option.some.injEq,Prod.mk.injEq] at h
     obtain ⟨rfl,rfl⟩:=h
     obtain ⟨p1,p2⟩:=rM.1 hp
     simp only [hb,ziJ h1 p1,Option.bind_some]
     exact vW h2 p2
    ·simp at h
   ·simp at h
  ·rename_i hb
   split
   ·rename_i sz es hb2;exact absurd hb2 (hb sz es)
   ·exact vW h hp
def zgz (σ:St):Gh→Option (St×List Prop)
 |.frzA s=>match lk σ.tm s with
  |some (.ptr i _ _)=>match σ.bx[i]? with
   |some (.var cs)=>Gz (vT cs) σ
   |_=>some (σ,[])
  |some x=>Gz x.rows σ
  |none=>some (σ,[])
 |g=>match ghost σ g with
  |some σ'=>some (σ',[])
  |none=>none
theorem zkS {σ σ':St}{g:Gh}{ps:List Prop}(h:zgz σ g=some (σ',ps))(hp:allP ps):ghost σ g=some σ':=by
 cases g with
 |frzA s=>
  simp only [zgz] at h
  simp only [ghost]
  split at h
  ·rename_i i e o hs
   rw [hs]
   dsimp only
   split at h
   ·rename_i cs hb
    rw [hb];exact vW h hp
   ·rename_i hb
    simp only [Option.some.injEq,Prod.mk.injEq] at h
    obtain ⟨rfl,_⟩:=h
    split
    ·rename_i cs hb2;exact absurd hb2 (hb cs)
    ·rfl
  ·rename_i x hx hs
   rw [hs]
   cases x with
   |ptr i e o=>exact (hx i e o rfl).elim
   |_=>exact vW h hp
  ·rename_i hs
   rw [hs]
   simp only [Option.some.injEq,Prod.mk.injEq] at h
   obtain ⟨rfl,_⟩:=h;rfl
 |thaw s o=>
  simp only [zgz] at h
  split at h
  ·rename_i σ1 h1
   simp only [Option.some.injEq,Prod.mk.injEq] at h
   obtain ⟨rfl,_⟩:=h;exact h1
  ·simp at h
 |frz s o=>
  simp only [zgz] at h
  split at h
  ·rename_i σ1 h1
   simp only [Option.some.injEq,Prod.mk.injEq] at h
   obtain ⟨rfl,_⟩:=h;exact h1
  ·simp at h
 |frzV s=>
  simp only [zgz] at h
  split at h
  ·rename_i σ1 h1
   simp only [Option.some.injEq,Prod.mk.injEq] at h
   obtain ⟨rfl,_⟩:=h;exact h1
  ·simp at h
def ghostsA:List Gh→St→Option (St×List Prop)
 |[],σ=>some (σ,[])
 |g::r,σ=>match zgz σ g with
  |none=>none
  |some (σ',ps)=>match ghostsA r σ' with
   |none=>none
   |some (zp7,qs)=>some (zp7,ps++qs)
theorem X5:∀{l:List Gh} {σ σ':St} {ps:List Prop},ghostsA l σ=some (σ',ps)→allP ps→ghosts l σ=some σ'
 |[],σ,σ',ps,h,_=>by
  simp only [ghostsA,Option.some.injEq,Prod.mk.injEq] at h
  obtain ⟨rfl,_⟩:=h;rfl
 |g::r,σ,σ',ps,h,hp=>by
  simp only [ghostsA] at h
  split at h
  ·simp at h
  ·rename_i σ1 ps1 h1
   split at h
   ·simp at h
   ·rename_i σ2 qs h2
    simp only [Option.some.injEq,Prod.mk.injEq] at h
    obtain ⟨rfl,rfl⟩:=h
    obtain ⟨p1,p2⟩:=rM.1 hp
    simp only [ghosts,zkS h1 p1,X5 h2 p2]
def zpP (nIn:Nat)(f:St→List (Ex×St)→Option (Ex×St×List (Ex×St)×List Prop)):Nat→St→List (Ex×St)→Option (Ex×St×List (Ex×St)×List Prop)
 |0,_,_=>none
 |n+1,σ,lo=>match canon nIn σ with
  |none=>none
  |some σ=>match f σ lo with
   |some (.norm,σ',lo',ps)=>match zpP nIn f n σ' lo' with
    |some (e,zp7,zsS,qs)=>some (e,zp7,zsS,ps++qs)
    |none=>none
   |r=>r
theorem zey {nIn:Nat}{f:St→List (Ex×St)→Option (Ex×St×List (Ex×St)×List Prop)}{g:St→Option (Ex×St)}(hf:∀(σ σ':St) (lo lo':List (Ex×St)) (e:Ex) (ps:List Prop),f σ lo=some (e,σ',lo',ps)→allP ps→g σ=some (e,σ')):
  ∀{n:Nat} {σ σ':St} {lo lo':List (Ex×St)} {e:Ex} {ps:List Prop},zpP nIn f n σ lo=some (e,σ',lo',ps)→allP ps→iter nIn g n σ=some (e,σ')
 |0,σ,σ',lo,lo',e,ps,h,_=>by simp [zpP] at h
 |n+1,σ,σ',lo,lo',e,ps,h,hp=>by
  simp only [zpP] at h
  simp only [iter]
  split at h
  ·simp at h
  ·rename_i σ1 hc
   rw [hc]
   dsimp only
   split at h
   ·rename_i σ2 lo2 ps1 h1
    split at h
    ·rename_i e3 σ3 lo3 qs h2
     simp only [Option.some.injEq,Prod.mk.injEq] at h
     obtain ⟨rfl,rfl,_,rfl⟩:=h
     obtain ⟨hp1,hp2⟩:=rM.1 hp
     rw [hf _ _ _ _ _ _ h1 hp1]
     exact zey hf h2 hp2
    ·simp at h
   ·rename_i hne
    rw [hf _ _ _ _ _ _ h hp]
    cases e with
    |norm=>exact absurd h (hne _ _ _)
    |exit k=>rfl
    |ret=>rfl
def zeq (Γ:Gam)(ans:List (Nat×Ans))(nIn fu:Nat):C→St→List (Ex×St)→Option (Ex×St×List (Ex×St)×List Prop)
 |.skip,σ,lo=>some (.norm,σ,lo,[])
 |.reg gh draw l live,σ,lo=>match ghostsA gh σ with
  |none=>none
  |some (σ,qs)=>match stepsA Γ ans l σ with
   |none=>none
   |some (σ',fps,ps)=>if pairsOk l fps draw then some (.norm,⟨keep live σ'.tm,σ'.bx⟩,lo,qs++ps) else none
 |.seq a b,σ,lo=>match zeq Γ ans nIn fu a σ lo with
  |some (.norm,σ',lo,ps)=>match zeq Γ ans nIn fu b σ' lo with
   |some (e,zp7,lo,qs)=>some (e,zp7,lo,ps++qs)
   |none=>none
  |r=>r
 |.cond c a b,σ,lo=>match σ.ev c with
  |some (.v (.bool t))=>if t then zeq Γ ans nIn fu a σ lo else zeq Γ ans nIn fu b σ lo
  |_=>none
 |.block id b,σ,lo=>match zeq Γ ans nIn fu b σ lo with
  |some (.exit j,σ',lo,ps)=>if j==id then some (.norm,σ',lo,ps) else some (.exit j,σ',lo,ps)
  |r=>r
 |.loop b,σ,o::lo=>some (o.1,o.2,lo,[run Γ nIn fu (.loop b) σ=some o])
 |.loop b,σ,[]=>zpP nIn (fun σ lo=>zeq Γ ans nIn fu b σ lo) fu σ []
 |.rf f ps live as b,σ,o::lo=>some (o.1,o.2,lo,[run Γ nIn fu (.rf f ps live as b) σ=some o])
 |.rf f ps live as b,σ,[]=>match run Γ nIn fu (.rf f ps live as b) σ with
  |some (e,σ')=>some (e,σ',[],[])
  |none=>none
 |.exit id,σ,lo=>some (.exit id,σ,lo,[])
 |.ret,σ,lo=>some (.ret,σ,lo,[])
 |.stuck,_,_=>none
theorem uQ {Γ:Gam}{ans:List (Nat×Ans)}{nIn fu:Nat}:∀{m:C} {σ σ':St} {lo lo':List (Ex×St)} {e:Ex} {ps:List Prop},zeq Γ ans nIn fu m σ lo=some (e,σ',lo',ps)→allP ps→run Γ nIn fu m σ=some (e,σ'):=by
 intro m
 induction m with
 |skip=>
  intro σ σ' lo lo' e ps h _
  simp only [zeq,Option.some.injEq,Prod.mk.injEq] at h
  obtain ⟨rfl,rfl,_⟩:=h;rfl
 |exit id=>
  intro σ σ' lo lo' e ps h _
  simp only [zeq,Option.some.injEq,Prod.mk.injEq] at h
  obtain ⟨rfl,rfl,_⟩:=h;rfl
 |ret=>
  intro σ σ' lo lo' e ps h _
  simp only [zeq,Option.some.injEq,Prod.mk.injEq] at h
  obtain ⟨rfl,rfl,_⟩:=h;rfl
 |stuck=>intro σ σ' lo lo' e ps h _;simp [zeq] at h
 |reg gh draw l live=>
  intro σ σ' lo lo' e ps h hp
  simp only [zeq] at h
  split at h
  ·simp at h
  ·rename_i σ1 gps hg
   split at h
   ·simp at h
   ·rename_i σ2 fps qs hs
    split at h
    ·rename_i hpo
     simp only [Option.some.injEq,Prod.mk.injEq] at h
     obtain ⟨rfl,rfl,_,rfl⟩:=h
     obtain ⟨p1,p2⟩:=rM.1 hp
     simp only [run,X5 hg p1,Zu hs p2,hpo,if_true]
    ·simp at h
 |seq a b iha ihb=>
  intro σ σ' lo lo' e ps h hp
  simp only [zeq] at h
  split at h
  ·rename_i σ1 lo1 ps1 h1
   split at h
   ·rename_i e2 σ2 lo2 qs h2
    simp only [Option.some.injEq,Prod.mk.injEq] at h
    obtain ⟨rfl,rfl,_,rfl⟩:=h
    obtain ⟨hp1,hp2⟩:=rM.1 hp
    simp only [run,iha h1 hp1,ihb h2 hp2]
   ·simp at h
  ·rename_i hne
   have h1:=iha h hp
   simp only [run,h1]
   cases e with
   |norm=>exact absurd h (hne _ _ _)
   |exit k=>rfl
   |ret=>rfl
 |cond c a b iha ihb=>
  intro σ σ' lo lo' e ps h hp
  simp only [zeq] at h
  split at h
  ·rename_i t ht
   cases t with
   |true=>simp only [if_true] at h;simp only [run,ht,if_true];exact iha h hp
   |false=>simp only [Bool.false_eq_true,if_false] at h;simp only [run,ht,Bool.false_eq_true,if_false];exact ihb h hp
  ·simp at h
 |block id b ih=>
  intro σ σ' lo lo' e ps h hp
  simp only [zeq] at h
  split at h
  ·rename_i j σ1 lo1 ps1 h1
   by_cases hj:(j==id)=true
   ·rw [if_pos hj] at h
    simp only [Option.some.injEq,Prod.mk.injEq] at h
    obtain ⟨rfl,rfl,_,rfl⟩:=h
    simp only [run,ih h1 hp,if_pos hj]
   ·rw [if_neg hj] at h
    simp only [Option.some.injEq,Prod.mk.injEq] at h
    obtain ⟨rfl,rfl,_,rfl⟩:=h
    simp only [run,ih h1 hp,if_neg hj]
  ·rename_i hne
   have h1:=ih h hp
   simp only [run,h1]
   cases e with
   |norm=>rfl
   |exit k=>exact absurd h (hne _ _ _ _)
   |ret=>rfl
 |loop b ih=>
  intro σ σ' lo lo' e ps h hp
  cases lo with
  |nil=>
   simp only [zeq] at h
   simp only [run]
   exact zey (fun σ σ' lo lo' e ps h hp=>ih h hp) h hp
  |cons o lo=>
   simp only [zeq,Option.some.injEq,Prod.mk.injEq] at h
   obtain ⟨rfl,rfl,_,rfl⟩:=h
   exact hp.1
 |rf f qs live as b _ _=>
  intro σ σ' lo lo' e ps h hp
  cases lo with
  |nil=>
   simp only [zeq] at h
   split at h
   ·rename_i e1 σ1 h1
    simp only [Option.some.injEq,Prod.mk.injEq] at h
    obtain ⟨rfl,rfl,_⟩:=h
    exact h1
   ·simp at h
  |cons o lo=>
   simp only [zeq,Option.some.injEq,Prod.mk.injEq] at h
   obtain ⟨rfl,rfl,_,rfl⟩:=h
   exact hp.1
def zl9 (Γ:Gam)(fu:Nat)(ans:List (Nat×Ans))(args:List X)(inb:List Bx):Option (Option (X×List Bx)×List Prop):=
 match args with
 |.yl i::as=>match inb[i]? with
  |some (.loop .ready none tm ps assign body)=>
   match zipPs ps as tm with
   |none=>none
   |some tm=>match zeq Γ ans inb.length fu assign ⟨tm,inb⟩ [] with
    |some (.norm,σ,_,ps1)=>match beginL σ.bx i with
     |none=>none
     |some bx=>match zeq Γ ans inb.length fu body ⟨σ.tm,bx⟩ [] with
      |none=>none
      |some (.norm,σ,_,ps2)=>some ((setLoop σ.bx i .busy .ready none).bind fun bx=>pack inb.length (.v (.bool true)) bx,ps1++ps2)
      |some (e,σ,_,ps2)=>some ((setLoop σ.bx i .busy .done (some e)).bind fun bx=>pack inb.length (.v (.bool false)) bx,ps1++ps2)
    |_=>none
  |_=>none
 |_=>none
theorem ziU {Γ:Gam}{fu:Nat}{ans:List (Nat×Ans)}{args:List X}{inb:List Bx}{r:Option (X×List Bx)}{ps:List Prop}(h:zl9 Γ fu ans args inb=some (r,ps))(hp:allP ps):zrf Γ fu args inb=r:=by
 unfold zl9 at h
 split at h
 ·rename_i i as
  split at h
  ·rename_i tm qs assign body hb
   split at h
   ·simp at h
   ·rename_i tm' hz
    split at h
    ·rename_i σ1 lo1 ps1 h1
     split at h
     ·simp at h
     ·rename_i bx zrS
      split at h
      ·simp at h
      ·rename_i σ2 lo2 ps2 h2
       simp only [Option.some.injEq,Prod.mk.injEq] at h
       obtain ⟨rfl,rfl⟩:=h
       obtain ⟨p1,p2⟩:=rM.1 hp
       simp only [zrf,hb,hz,uQ h1 p1,zrS,uQ h2 p2]
      ·rename_i h2
       simp only [Option.some.injEq,Prod.mk.injEq] at h
       obtain ⟨rfl,rfl⟩:=h
       obtain ⟨p1,p2⟩:=rM.1 hp
       simp only [zrf,hb,hz,uQ h1 p1,zrS,uQ h2 p2]
    ·simp at h
  ·simp at h
 ·simp at h
theorem ziQ {T:FuncId→Option Fun}{ext:Ext}{n:Nat}{ans:List (Nat×Ans)}{args:List X}{inb:List Bx}{r:Option (X×List Bx)}{ps:List Prop}(h:zl9 (callF T ext n) n ans args inb=some (r,ps))(hp:allP ps):
  callF T ext (n+1) .yl args inb=r:=by
 simp only [callF];exact ziU h hp
def zsf (Γ:Gam)(fu:Nat)(ans:List (Nat×Ans))(lo:List (Ex×St))(fd:Fun)(args:List X)(inb:List Bx):Option (Option (X×List Bx)×List Prop):=
 if args.length==fd.np then
  match zeq Γ ans inb.length fu fd.body ⟨zipTm 0 args,inb⟩ lo with
  |some (.norm,σ,_,ps)|some (.ret,σ,_,ps)=>some ((resX σ fd.res).bind fun xs=>pack inb.length (packRes xs) σ.bx,ps)
  |_=>none
 else none
theorem zn2 {Γ:Gam}{fu:Nat}{ans:List (Nat×Ans)}{lo:List (Ex×St)}{fd:Fun}{args:List X}{inb:List Bx}{r:Option (X×List Bx)}{ps:List Prop}(h:zsf Γ fu ans lo fd args inb=some (r,ps))(hp:allP ps):zrp Γ fu fd args inb=r:=by
 unfold zsf at h
 unfold zrp
 split at h
 ·rename_i hl
  rw [if_pos hl]
  split at h
  ·rename_i hr
   simp only [Option.some.injEq,Prod.mk.injEq] at h
   obtain ⟨rfl,rfl⟩:=h
   rw [uQ hr hp]
  ·rename_i hr
   simp only [Option.some.injEq,Prod.mk.injEq] at h
   obtain ⟨rfl,rfl⟩:=h
   rw [uQ hr hp]
  ·simp at h
 ·simp at h
def zqy (T:FuncId→Option Fun)(ext:Ext)(n:Nat)(ans:List (Nat×Ans))(lo:List (Ex×St))(f:FuncId)(args:List X)(inb:List Bx):Option (Option (X×List Bx)×List Prop):=
 match ext f with
 |some _=>none
 |none=>match T f with
  |some fd=>zsf (callF T ext n) n ans lo fd args inb
  |none=>none
theorem zeG {T:FuncId→Option Fun}{ext:Ext}{n:Nat}{ans:List (Nat×Ans)}{lo:List (Ex×St)}{f:FuncId}{args:List X}{inb:List Bx}{r:Option (X×List Bx)}{ps:List Prop}(h:zqy T ext n ans lo f args inb=some (r,ps))(hp:allP ps):
  callF T ext (n+1) (.fn f) args inb=r:=by
 unfold zqy at h
 simp only [callF]
 split at h
 ·simp at h
 ·rename_i he
  rw [he]
  split at h
  ·rename_i fd hfd
   rw [hfd]
   exact zn2 h hp
  ·simp at h
theorem iter_step {nIn n:Nat}{f:St→Option (Ex×St)}{τ σ τ':St}{r:Option (Ex×St)}(hc:canon nIn τ=some σ)(hf:f σ=some (.norm,τ'))(hr:iter nIn f n τ'=r):iter nIn f (n+1) τ=r:=by
 simp only [iter,hc,hf,hr]
theorem iter_end {nIn n:Nat}{f:St→Option (Ex×St)}{τ σ τ':St}{e:Ex}(hc:canon nIn τ=some σ)(hf:f σ=some (e,τ'))(he:e≠.norm):iter nIn f (n+1) τ=some (e,τ'):=by
 simp only [iter,hc,hf]
 cases e<;>first|rfl|exact absurd rfl he
theorem zrQ {nIn k:Nat}{f:St→Option (Ex×St)}{σ τ:Nat→St}{e:Ex}{fin:St}(hc:∀j,j≤k→canon nIn (τ j)=some (σ j))(hs:∀j,j<k→f (σ j)=some (.norm,τ (j+1)))(he:f (σ k)=some (e,fin))(hne:e≠.norm){F:Nat}(hF:k<F):
  iter nIn f F (τ 0)=some (e,fin):=by
 have key:∀d j F,j+d=k→d<F→iter nIn f F (τ j)=some (e,fin):=by
  intro d
  induction d with
  |zero=>
   intro j F hj hF
   obtain ⟨F',rfl⟩:∃F',F=F'+1:=⟨F-1,by omega⟩
   have hjk:j=k:=by omega
   subst hjk
   exact iter_end (hc j (Nat.le_refl _)) he hne
  |succ d ih=>
   intro j F hj hF
   obtain ⟨F',rfl⟩:∃F',F=F'+1:=⟨F-1,by omega⟩
   exact iter_step (hc j (by omega)) (hs j (by omega)) (ih (j+1) F' (by omega) (by omega))
 exact key k 0 F (by omega) hF
def C.at:List Nat→C→C
 |[],c=>c
 |0::p,.seq a _=>C.at p a
 |_::p,.seq _ b=>C.at p b
 |0::p,.cond _ a _=>C.at p a
 |_::p,.cond _ _ b=>C.at p b
 |_::p,.block _ b=>C.at p b
 |_::p,.loop b=>C.at p b
 |0::p,.rf _ _ _ a _=>C.at p a
 |_::p,.rf _ _ _ _ b=>C.at p b
 |_,c=>c
def bodyOf (T:FuncId→Option Fun)(f:FuncId):C:=match T f with
 |some fd=>fd.body
 |none=>.skip
def C.loops:C→List C
 |.seq a b|.cond _ a b|.rf _ _ _ a b=>a.loops++b.loops
 |.block _ b=>b.loops
 |.loop b=>b::b.loops
 |_=>[]
def zsz (T:FuncId→Option Fun)(f:FuncId)(k:Nat):C:=(bodyOf T f).loops.getD k .skip
end Go.Em
