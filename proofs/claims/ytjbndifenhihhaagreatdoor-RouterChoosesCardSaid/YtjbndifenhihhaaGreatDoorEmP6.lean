/- The abstract machine, asked with answers: where an outcome is not plain, it is told, and what was told is to be shown. -/
import Derived.Test.YtjbndifenhihhaaGreatDoorEmP0
import Derived.Test.YtjbndifenhihhaaGreatDoorEmP5
namespace Go.Em
inductive Ans where
 |b (t:Bool)
 |i (n:Int)
 |x (y:X)
 |c (y:X) (bx:List Bx) (fp:FP)
 |e (l:List X)
 |p (y:X)
 |app
 |fresh
 |mk
 |o (y:X) (out:List Bx)
 |r (y:X) (out:List Bx)
 |d (as:List X) (y:X)
 |cut
 |cutz
 |at
 |ld (cs:List X)
 |st (cs:List X)
 |g (y:X)
 |pm (es:List (Value×X))
def zlJ (Γ:Gam)(σ:St)(y:X):I→Option ((X×List Bx×FP)×Prop)
 |.call own ref raw f args=>match σ.ev f,evs σ args with
  |some (.fn g caps),some zs=>match fG σ.bx raw zs with
   |some as=>if !ref&&(!own&&!ref&&(bM (as++caps)).isEmpty)&&(mM y&&((fO zs).isEmpty||y.plain)) then some ((y,σ.bx,⟨false,fO zs,[]⟩),Γ.pureD g (as++caps)=some y) else none
   |none=>none
  |_,_=>none
 |_=>none
theorem Sr {Γ:Gam}{σ:St}{i:I}{y:X}{q:X×List Bx×FP}{p:Prop}(h:zlJ Γ σ y i=some (q,p))(hp:p):au Γ σ i=some q:=by
 unfold zlJ at h
 split at h
 ·rename_i own ref raw f args
  split at h
  ·rename_i g caps zs hf ha
   split at h
   ·rename_i as hd
    split at h
    ·rename_i hc
     simp only [Option.some.injEq,Prod.mk.injEq] at h
     obtain ⟨rfl,rfl⟩:=h
     simp only [Bool.and_eq_true,Bool.not_eq_true'] at hc
     obtain ⟨⟨hr,⟨⟨h1,_⟩,h2⟩⟩,h3,h4⟩:=hc
     subst hr;subst h1
     simp only [au,hf,ha,qY,Bool.false_eq_true,if_false,hd,h2,Bool.not_false,Bool.and_true,if_true,hp,h3,h4]
    ·simp at h
   ·simp at h
  ·simp at h
 ·simp at h
def zlP (Γ:Gam)(σ:St)(as:List X)(y:X):I→Option ((X×List Bx×FP)×Prop)
 |.call own ref raw f args=>match σ.ev f,evs σ args with
  |some (.fn g caps),some zs=>if !ref&&(!own&&!ref&&(bM (as++caps)).isEmpty)&&(mM y&&((fO zs).isEmpty||y.plain)) then some ((y,σ.bx,⟨false,fO zs,[]⟩),fG σ.bx raw zs=some as∧Γ.pureD g (as++caps)=some y) else none
  |_,_=>none
 |_=>none
theorem SG {Γ:Gam}{σ:St}{i:I}{as:List X}{y:X}{q:X×List Bx×FP}{p:Prop}(h:zlP Γ σ as y i=some (q,p))(hp:p):au Γ σ i=some q:=by
 unfold zlP at h
 split at h
 ·rename_i own ref raw f args
  split at h
  ·rename_i g caps zs hf ha
   split at h
   ·rename_i hc
    simp only [Option.some.injEq,Prod.mk.injEq] at h
    obtain ⟨rfl,rfl⟩:=h
    simp only [Bool.and_eq_true,Bool.not_eq_true'] at hc
    obtain ⟨⟨hr,⟨⟨h1,_⟩,h2⟩⟩,h3,h4⟩:=hc
    obtain ⟨hd,hp⟩:=hp
    subst hr;subst h1
    simp only [au,hf,ha,qY,Bool.false_eq_true,if_false,hd,h2,Bool.not_false,Bool.and_true,if_true,hp,h3,h4]
   ·simp at h
  ·simp at h
 ·simp at h
def zlR (σ:St):I→Option ((X×List Bx×FP)×Prop)
 |.app _ sz bytes s z=>match σ.ev s,σ.ev z with
  |some (.bs i off len),some y=>match σ.bx[i]?,nG σ.bx y with
   |some (.row sz0 es),some (sz',new)=>if sz'==sz&&sz0==sz then
     some ((.bs σ.bx.length 0 (len+new.length),σ.bx.set i .dead++[.row sz (es.drop off++new)],⟨true,y.rows,[i,σ.bx.length]⟩),off+len=es.length∧dD (len+new.length) bytes=true∧ou i y.rows=false) else none
   |_,_=>none
  |_,_=>none
 |_=>none
theorem SI {Γ:Gam}{σ:St}{i:I}{q:X×List Bx×FP}{p:Prop}(h:zlR σ i=some (q,p))(hp:p):au Γ σ i=some q:=by
 unfold zlR at h
 split at h
 ·rename_i own sz bytes s z
  split at h
  ·rename_i i off len y hs hz
   split at h
   ·rename_i sz0 es sz' new hb hsrc
    split at h
    ·rename_i hc
     simp only [Option.some.injEq,Prod.mk.injEq] at h
     obtain ⟨rfl,rfl⟩:=h
     simp only [Bool.and_eq_true] at hc
     obtain ⟨h1,h2,h3⟩:=hp
     simp only [au,hs,hz,hsrc,hb,hc.1,hc.2,Bool.not_true,Bool.false_eq_true,if_false,h1,beq_self_eq_true,h2,h3,Bool.not_false,Bool.and_true,if_true]
    ·simp at h
   ·simp at h
  ·simp at h
 ·simp at h
def zlO (σ:St):I→Option ((X×List Bx×FP)×Prop)
 |.app own sz bytes s z=>match σ.ev s,σ.ev z with
  |some (.sl true sz0 es),some y=>match nG σ.bx y with
   |some (sz',new)=>if sz'==sz&&sz0==sz then
     (if own then some ((.bs σ.bx.length 0 (es.length+new.length),σ.bx++[.row sz (es++new)],⟨true,y.rows,[σ.bx.length]⟩),new.isEmpty=false∧dD (es.length+new.length) bytes=true)
      else some ((.sl false sz (es++new),σ.bx,⟨false,y.rows,[]⟩),dD (es.length+new.length) bytes=true)) else none
   |_=>none
  |_,_=>none
 |_=>none
theorem SE {Γ:Gam}{σ:St}{i:I}{q:X×List Bx×FP}{p:Prop}(h:zlO σ i=some (q,p))(hp:p):au Γ σ i=some q:=by
 unfold zlO at h
 split at h
 ·rename_i own sz bytes s z
  split at h
  ·rename_i sz0 es y hs hz
   split at h
   ·rename_i sz' new hsrc
    split at h
    ·rename_i hc
     simp only [Bool.and_eq_true] at hc
     split at h
     ·rename_i ho
      simp only [Option.some.injEq,Prod.mk.injEq] at h
      obtain ⟨rfl,rfl⟩:=h
      obtain ⟨h1,h2⟩:=hp
      simp only [au,hs,hz,hsrc,hc.1,hc.2,ho,Bool.not_true,Bool.false_eq_true,if_false,h1,h2,Bool.and_self,if_true]
     ·rename_i ho
      simp only [Option.some.injEq,Prod.mk.injEq] at h
      obtain ⟨rfl,rfl⟩:=h
      have ho':own=false:=by simpa using ho
      simp only [au,hs,hz,hsrc,hc.1,hc.2,ho',Bool.not_true,Bool.false_eq_true,if_false,hp,Bool.and_self,if_true]
    ·simp at h
   ·simp at h
  ·simp at h
 ·simp at h
def zlL (σ:St):I→Option ((X×List Bx×FP)×Prop)
 |.mksl bytes zero len cap=>match (σ.ev len).bind SX,(σ.ev cap).bind SX with
  |some n,some c=>some ((.bs σ.bx.length 0 n,σ.bx++[.row zero.length (List.replicate n zero)],⟨true,[],[σ.bx.length]⟩),n≤c∧dD c bytes=true)
  |_,_=>none
 |_=>none
theorem Sz {Γ:Gam}{σ:St}{i:I}{q:X×List Bx×FP}{p:Prop}(h:zlL σ i=some (q,p))(hp:p):au Γ σ i=some q:=by
 unfold zlL at h
 split at h
 ·split at h
  ·rename_i n c hn hc
   simp only [Option.some.injEq,Prod.mk.injEq] at h
   obtain ⟨rfl,rfl⟩:=h
   obtain ⟨h1,h2⟩:=hp
   simp [au,hn,hc,h1,h2]
  ·simp at h
 ·simp at h
mutual
theorem Ep (f:Nat→Nat):∀(x:X),x.refs=[]→x.ren f=x
 |.bs ..,h=>by simp [X.refs] at h
 |.ptr ..,h=>by simp [X.refs] at h
 |.yl ..,h=>by simp [X.refs] at h
 |.mp ..,h=>by simp [X.refs] at h
 |.ifc,_=>rfl
 |.fn g cs,h=>by simp only [X.ren,mg f cs (by simpa [X.refs] using h)]
 |.agg cs,h=>by simp only [X.ren,mg f cs (by simpa [X.refs] using h)]
 |.tup cs,h=>by simp only [X.ren,mg f cs (by simpa [X.refs] using h)]
 |.v _,_=>rfl
 |.sl ..,_=>rfl
 |.dp _,_=>rfl
theorem mg (f:Nat→Nat):∀(cs:List X),bM cs=[]→Jw f cs=cs
 |[],_=>rfl
 |x::r,h=>by
  simp only [bM,List.append_eq_nil_iff] at h
  simp only [Jw,Ep f x h.1,mg f r h.2]
end
theorem MS {Γ:Gam}{g:FuncId}{args:List X}{bx outb:List Bx}{r:X}(h0:bM args=[])(h:Γ (.fn g) args []=some (r,outb)):
  gK Γ (.fn g) args bx=some (r.ren (fun j=>bx.length+j),bx++outb.map (Bx.ren fun j=>bx.length+j),[]):=by
 have hs:reach bx gG (bM args) []=[]:=by rw [h0];rfl
 have hp:AY bx []=some []:=rfl
 have hb:(fun j=>if j<([]:List Nat).length then ([]:List Nat).getD j 0 else bx.length+(j-([]:List Nat).length))=fun j=>bx.length+j:=by funext j;simp
 unfold gK
 simp only [hs,hp,mg _ args h0,h]
 rw [hb]
 simp [JE,h0,jk]
def zlK (Γ:Gam)(σ:St)(y:X)(out:List Bx):I→Option ((X×List Bx×FP)×Prop)
 |.call own ref raw f args=>match σ.ev f,evs σ args with
  |some (.fn g caps),some zs=>match fG σ.bx raw zs with
   |some as=>if own&&!ref&&(bM (as++caps)).isEmpty&&(fO zs).isEmpty then
     some ((y.ren (fun j=>σ.bx.length+j),σ.bx++out.map (Bx.ren fun j=>σ.bx.length+j),xJ [] [] σ.bx.length (σ.bx++out.map (Bx.ren fun j=>σ.bx.length+j)).length),Γ (.fn g) (as++caps) []=some (y,out)) else none
   |none=>none
  |_,_=>none
 |_=>none
theorem Sv {Γ:Gam}{σ:St}{i:I}{y:X}{out:List Bx}{q:X×List Bx×FP}{p:Prop}(h:zlK Γ σ y out i=some (q,p))(hp:p):au Γ σ i=some q:=by
 unfold zlK at h
 split at h
 ·rename_i own ref raw f args
  split at h
  ·rename_i g caps zs hf ha
   split at h
   ·rename_i as hd
    split at h
    ·rename_i hc
     simp only [Option.some.injEq,Prod.mk.injEq] at h
     obtain ⟨rfl,rfl⟩:=h
     simp only [Bool.and_eq_true,Bool.not_eq_true'] at hc
     obtain ⟨⟨⟨h1,hr⟩,h2⟩,h3⟩:=hc
     subst hr;subst h1
     have:=MS (bx:=σ.bx) (List.isEmpty_iff.1 h2) hp
     simp only [au,hf,ha,qY,Bool.false_eq_true,if_false,hd,Bool.not_true,Bool.false_and,Bool.false_or,h3,if_true,this]
    ·simp at h
   ·simp at h
  ·simp at h
 ·simp at h
def ql (Γ:Gam)(fv:Fv)(args:List X)(bx:List Bx)(y:X)(outb:List Bx):Option ((X×List Bx×List Nat)×Prop):=
 let sel:=reach bx gG (bM args) []
 if JE (bM args) sel then
  match AY bx sel with
  |none=>none
  |some inb=>
   if sel.length≤outb.length then
    let back:=fun j=>if j<sel.length then sel.getD j 0 else bx.length+(j-sel.length)
    let outs:=outb.map (Bx.ren back)
    some ((y.ren back,jk sel outs bx++outs.drop sel.length,sel),Γ fv (Jw (qE · sel) args) inb=some (y,outb))
   else none
 else none
theorem jc {Γ:Gam}{fv:Fv}{args:List X}{bx:List Bx}{y:X}{outb:List Bx}{q:X×List Bx×List Nat}{p:Prop}(h:ql Γ fv args bx y outb=some (q,p))(hp:p):gK Γ fv args bx=some q:=by
 unfold ql at h
 unfold gK
 dsimp only at h ⊢
 split at h
 ·rename_i hs
  rw [if_pos hs]
  split at h
  ·simp at h
  ·rename_i inb hb
   split at h
   ·rename_i hl
    simp only [Option.some.injEq,Prod.mk.injEq] at h
    obtain ⟨rfl,rfl⟩:=h
    simp only [hb,hp,hl,if_true]
   ·simp at h
 ·simp at h
def zlI (Γ:Gam)(σ:St)(y:X)(out:List Bx):I→Option ((X×List Bx×FP)×Prop)
 |.call own ref raw f args=>match σ.ev f,evs σ args with
  |some (.yl i),some zs=>match fG σ.bx raw zs with
   |some as=>if !ref&&(fO zs).isEmpty then
     match ql Γ .yl (.yl i::as) σ.bx y out with
     |some ((x,bx',sel),p)=>some ((x,bx',xJ [] sel σ.bx.length bx'.length),p)
     |none=>none
    else none
   |none=>none
  |some (.fn g caps),some zs=>
   if ref then
    match ql Γ (.fn g) (zs++caps) σ.bx y out with
    |some ((x,bx',sel),p)=>some ((x,bx',xJ [] sel σ.bx.length bx'.length),p)
    |none=>none
   else match fG σ.bx raw zs with
   |some as=>if !(!own&&(bM (as++caps)).isEmpty)&&(fO zs).isEmpty then
     match ql Γ (.fn g) (as++caps) σ.bx y out with
     |some ((x,bx',sel),p)=>some ((x,bx',xJ [] sel σ.bx.length bx'.length),p)
     |none=>none
    else none
   |none=>none
  |_,_=>none
 |_=>none
theorem Sm {Γ:Gam}{σ:St}{i:I}{y:X}{out:List Bx}{q:X×List Bx×FP}{p:Prop}(h:zlI Γ σ y out i=some (q,p))(hp:p):au Γ σ i=some q:=by
 unfold zlI at h
 split at h
 ·rename_i own ref raw f args
  split at h
  ·rename_i j zs hf ha
   split at h
   ·rename_i as hd
    split at h
    ·rename_i hc
     simp only [Bool.and_eq_true,Bool.not_eq_true'] at hc
     obtain ⟨hr,hz⟩:=hc
     subst hr
     split at h
     ·rename_i x bx' sel p' hcr
      simp only [Option.some.injEq,Prod.mk.injEq] at h
      obtain ⟨rfl,rfl⟩:=h
      simp only [au,hf,ha,qY,Bool.false_eq_true,if_false,hd,hz,Bool.or_true,if_true,jc hcr hp]
     ·simp at h
    ·simp at h
   ·simp at h
  ·rename_i g caps zs hf ha
   split at h
   ·rename_i hr
    subst hr
    split at h
    ·rename_i x bx' sel p' hcr
     simp only [Option.some.injEq,Prod.mk.injEq] at h
     obtain ⟨rfl,rfl⟩:=h
     simp only [au,hf,ha,qY,if_true,Bool.not_true,Bool.and_false,Bool.false_and,Bool.false_eq_true,if_false,Bool.true_or,jc hcr hp]
    ·simp at h
   ·rename_i hr
    have hr':ref=false:=by simpa using hr
    subst hr'
    split at h
    ·rename_i as hd
     split at h
     ·rename_i hc
      simp only [Bool.and_eq_true,Bool.not_eq_true'] at hc
      obtain ⟨hn,hz⟩:=hc
      split at h
      ·rename_i x bx' sel p' hcr
       simp only [Option.some.injEq,Prod.mk.injEq] at h
       obtain ⟨rfl,rfl⟩:=h
       have hn':(!own&&!false&&(bM (as++caps)).isEmpty)=false:=by simpa using hn
       simp only [au,hf,ha,qY,Bool.false_eq_true,if_false,hd,hn',hz,Bool.or_true,if_true,jc hcr hp]
      ·simp at h
     ·simp at h
    ·simp at h
  ·simp at h
 ·simp at h
def zlQ (σ:St):I→Option ((X×List Bx×FP)×Prop)
 |.slice sz x lo hi none=>match σ.ev x with
  |some (.sl t s es)=>match cO σ 0 lo,cO σ es.length hi with
   |some l,some h=>if s==sz then some ((.sl (t&&h==es.length) s ((es.take h).drop l),σ.bx,⟨false,[],[]⟩),l≤h∧h≤es.length) else none
   |_,_=>none
  |some (.bs i off len)=>match cO σ 0 lo,cO σ len hi with
   |some l,some h=>match σ.bx[i]? with
    |some (.row s _)=>if s==sz then some ((.bs i (off+l) (h-l),σ.bx,⟨false,[i],[]⟩),l<h∧h≤len) else none
    |_=>none
   |_,_=>none
  |_=>none
 |.sslice x lo hi=>match σ.ev x with
  |some (.v (.string s))=>match cO σ 0 lo,cO σ s.size hi with
   |some l,some h=>some ((.v (.string (s.extract l h)),σ.bx,⟨false,[],[]⟩),l≤h∧h≤s.size)
   |_,_=>none
  |_=>none
 |_=>none
theorem SH {Γ:Gam}{σ:St}{i:I}{q:X×List Bx×FP}{p:Prop}(h:zlQ σ i=some (q,p))(hp:p):au Γ σ i=some q:=by
 unfold zlQ at h
 split at h
 ·rename_i sz x lo hi
  split at h
  ·rename_i t s es hx
   split at h
   ·rename_i l hh hl hhi
    split at h
    ·rename_i hs
     simp only [Option.some.injEq,Prod.mk.injEq] at h
     obtain ⟨rfl,rfl⟩:=h
     obtain ⟨h1,h2⟩:=hp
     simp [au,hx,hl,hhi,hs,h1,h2]
    ·simp at h
   ·simp at h
  ·rename_i i off len hx
   split at h
   ·rename_i l hh hl hhi
    split at h
    ·rename_i s es hb
     split at h
     ·rename_i hs
      simp only [Option.some.injEq,Prod.mk.injEq] at h
      obtain ⟨rfl,rfl⟩:=h
      obtain ⟨h1,h2⟩:=hp
      have h3:¬l=hh:=by omega
      have h4:l≤hh:=by omega
      simp [au,hx,hl,hhi,hb,hs,h2,h3,h4]
     ·simp at h
    ·simp at h
   ·simp at h
  ·simp at h
 ·rename_i x lo hi
  split at h
  ·rename_i s hx
   split at h
   ·rename_i l hh hl hhi
    simp only [Option.some.injEq,Prod.mk.injEq] at h
    obtain ⟨rfl,rfl⟩:=h
    obtain ⟨h1,h2⟩:=hp
    simp [au,hx,hl,hhi,h1,h2]
   ·simp at h
  ·simp at h
 ·simp at h
def zlF (σ:St):I→Option ((X×List Bx×FP)×Prop)
 |.slice sz x lo hi none=>match σ.ev x with
  |some (.bs _ _ len)=>match cO σ 0 lo,cO σ len hi with
   |some l,some h=>some ((.sl false sz [],σ.bx,⟨false,[],[]⟩),l=h∧h≤len)
   |_,_=>none
  |_=>none
 |_=>none
theorem Si {Γ:Gam}{σ:St}{i:I}{q:X×List Bx×FP}{p:Prop}(h:zlF σ i=some (q,p))(hp:p):au Γ σ i=some q:=by
 unfold zlF at h
 split at h
 ·split at h
  ·rename_i hx
   split at h
   ·rename_i hl hhi
    simp only [Option.some.injEq,Prod.mk.injEq] at h
    obtain ⟨rfl,rfl⟩:=h
    obtain ⟨rfl,h2⟩:=hp
    simp [au,hx,hl,hhi,h2]
   ·simp at h
  ·simp at h
 ·simp at h
def zlH (σ:St):I→Option ((X×List Bx×FP)×Prop)
 |.iaddr none sz z j=>match σ.ev z,(σ.ev j).bind ER with
  |some (.bs i off len),some n=>match σ.bx[i]? with
   |some (.row s _)=>if s==sz then some ((.ptr i (off+n) 0,σ.bx,⟨false,[i],[]⟩),n<len) else none
   |_=>none
  |_,_=>none
 |.iaddr (some len) sz z j=>match σ.ev z,(σ.ev j).bind ER with
  |some (.ptr i e o),some n=>some ((.ptr i e (o+n*sz),σ.bx,⟨false,[],[]⟩),n<len)
  |some (.dp cs),some n=>some ((.dp (cs.drop (n*sz)),σ.bx,⟨false,[],[]⟩),n<len)
  |_,_=>none
 |.sidx z j=>match σ.ev z,(σ.ev j).bind ER with
  |some (.v (.string s)),some n=>some ((.v (.int .u8 ((s[n]?).getD 0).toNat),σ.bx,⟨false,[],[]⟩),n<s.size)
  |_,_=>none
 |.bin .add a b=>match σ.ev a,σ.ev b with
  |some (.v (.string s)),some (.v (.string t))=>some ((.v (.string (s++t)),σ.bx,⟨false,[],[]⟩),s.size+t.size≤9223372036854775807)
  |_,_=>none
 |_=>none
theorem Sl {Γ:Gam}{σ:St}{i:I}{q:X×List Bx×FP}{p:Prop}(h:zlH σ i=some (q,p))(hp:p):au Γ σ i=some q:=by
 unfold zlH at h
 split at h
 ·split at h
  ·rename_i hz hj
   split at h
   ·rename_i hb
    split at h
    ·rename_i hs
     simp only [Option.some.injEq,Prod.mk.injEq] at h
     obtain ⟨rfl,rfl⟩:=h
     simp [au,hz,hj,hb,hs,hp]
    ·simp at h
   ·simp at h
  ·simp at h
 ·split at h
  ·rename_i hz hj
   simp only [Option.some.injEq,Prod.mk.injEq] at h
   obtain ⟨rfl,rfl⟩:=h
   simp [au,hz,hj,hp]
  ·rename_i hz hj
   simp only [Option.some.injEq,Prod.mk.injEq] at h
   obtain ⟨rfl,rfl⟩:=h
   simp [au,hz,hj,hp]
  ·simp at h
 ·split at h
  ·rename_i s n hz hj
   simp only [Option.some.injEq,Prod.mk.injEq] at h
   obtain ⟨rfl,rfl⟩:=h
   have:s[n]?=some s[n]:=getElem?_pos s n hp
   simp [au,hz,hj,this]
  ·simp at h
 ·split at h
  ·rename_i s t ha hb
   simp only [Option.some.injEq,Prod.mk.injEq] at h
   obtain ⟨rfl,rfl⟩:=h
   have hn:¬(((s.size+t.size:Nat):Int)>IntKind.i64.max):=by
    have:IntKind.i64.max=9223372036854775807:=rfl
    omega
   have hv:jq .add (.string s) (.string t)=some (.string (s++t)):=by
    show bJ (Op.stringOp .add s t)=_
    unfold Op.stringOp
    dsimp only
    rw [if_neg hn]
    rfl
   simp only [au,ha,hb,hv,Option.map_some]
  ·simp at h
 ·simp at h
def zlM (σ:St)(cs:List X):I→Option ((X×List Bx×FP)×Prop)
 |.load m a=>match σ.ev a with
  |some (.ptr i e o)=>match σ.bx[i]? with
   |some (.row _ es)=>match (match m with
     |none=>(cs.drop o).head?
     |some m=>if ((cs.drop o).take m).length==m then some (.agg ((cs.drop o).take m)) else none) with
    |some x=>some ((x,σ.bx,⟨false,[i],[]⟩),es[e]?=some cs)
    |none=>none
   |_=>none
  |_=>none
 |_=>none
theorem SA {Γ:Gam}{σ:St}{cs:List X}{i:I}{q:X×List Bx×FP}{p:Prop}(h:zlM σ cs i=some (q,p))(hp:p):au Γ σ i=some q:=by
 unfold zlM at h
 split at h
 ·split at h
  ·rename_i ha
   split at h
   ·rename_i hb
    split at h
    ·rename_i x hx
     simp only [Option.some.injEq,Prod.mk.injEq] at h
     obtain ⟨rfl,rfl⟩:=h
     rename_i m _ _ _ _ _ _ _ _ _
     simp only [au,ha,lN,iL,hb,hp,Option.map_some]
     cases m with
     |none=>dsimp only at hx ⊢;rw [hx];rfl
     |some m=>dsimp only at hx ⊢;rw [hx];rfl
    ·simp at h
   ·simp at h
  ·simp at h
 ·simp at h
def zlG (σ:St)(cs:List X):I→Option ((X×List Bx×FP)×Prop)
 |.store n a x=>match σ.ev a,σ.ev x with
  |some (.ptr i e o),some y=>match σ.bx[i]? with
   |some (.row sz es)=>if y.ok1&&y.cells.length==n&&(bM y.cells).isEmpty then
     match splice cs o y.cells with
     |some cs'=>some ((undefX,σ.bx.set i (.row sz (es.set e cs')),⟨true,[],[i]⟩),es[e]?=some cs)
     |none=>none
    else none
   |_=>none
  |_,_=>none
 |_=>none
theorem Sj {Γ:Gam}{σ:St}{cs:List X}{i:I}{q:X×List Bx×FP}{p:Prop}(h:zlG σ cs i=some (q,p))(hp:p):au Γ σ i=some q:=by
 unfold zlG at h
 split at h
 ·split at h
  ·rename_i ha hx
   split at h
   ·rename_i hb
    split at h
    ·rename_i hc
     split at h
     ·rename_i cs' hs
      simp only [Option.some.injEq,Prod.mk.injEq] at h
      obtain ⟨rfl,rfl⟩:=h
      simp only [Bool.and_eq_true] at hc
      simp only [au,ha,hx,jm,hb,hp,hc.1.1,hc.1.2,hc.2,Bool.and_self,if_true,hs,Option.map_some,jh]
     ·simp at h
    ·simp at h
   ·simp at h
  ·simp at h
 ·simp at h
def zlN (σ:St)(y:X):I→Option ((X×List Bx×FP)×Prop)
 |.zbh kk ok zero m k=>match σ.ev m,σ.ev k with
  |some (.mp i),some (.v kv)=>match σ.bx[i]? with
   |some (.map es)=>if qC kk kv then some ((y,σ.bx,⟨false,[i],[]⟩),sW ok zero kv es=some y) else none
   |_=>none
  |_,_=>none
 |_=>none
theorem SC {Γ:Gam}{σ:St}{i:I}{y:X}{q:X×List Bx×FP}{p:Prop}(h:zlN σ y i=some (q,p))(hp:p):au Γ σ i=some q:=by
 unfold zlN at h
 split at h
 ·split at h
  ·rename_i hm hk
   split at h
   ·rename_i hb
    split at h
    ·rename_i hc
     simp only [Option.some.injEq,Prod.mk.injEq] at h
     obtain ⟨rfl,rfl⟩:=h
     simp only [au,hm,hk,hb,hc,if_true,hp,Option.map_some]
    ·simp at h
   ·simp at h
  ·simp at h
 ·simp at h
def zfu (σ:St)(es':List (Value×X)):I→Option ((X×List Bx×FP)×Prop)
 |.zbg kk m k v=>match σ.ev m,σ.ev k,σ.ev v with
  |some (.mp i),some (.v kv),some x=>match σ.bx[i]? with
   |some (.map es)=>if qC kk kv&&x.ok1&&mM x then some ((undefX,σ.bx.set i (.map es'),⟨true,[],[i]⟩),zq kv x es=some es') else none
   |_=>none
  |_,_,_=>none
 |_=>none
theorem MZ {Γ:Gam}{σ:St}{i:I}{es':List (Value×X)}{q:X×List Bx×FP}{p:Prop}(h:zfu σ es' i=some (q,p))(hp:p):au Γ σ i=some q:=by
 unfold zfu at h
 split at h
 ·split at h
  ·rename_i hm hk hv
   split at h
   ·rename_i hb
    split at h
    ·rename_i hc
     simp only [Option.some.injEq,Prod.mk.injEq] at h
     obtain ⟨rfl,rfl⟩:=h
     simp only [au,hm,hk,hv,hb,hc,if_true,hp,Option.map_some]
    ·simp at h
   ·simp at h
  ·simp at h
 ·simp at h
def zfv (Γ:Gam)(σ:St)(i:I):Ans→Option ((X×List Bx×FP)×Prop)
 |.b t'=>match au Γ σ i with
  |some (.v (.bool t),bx,fp)=>some ((.v (.bool t'),bx,fp),t=t')
  |_=>none
 |.i n'=>match au Γ σ i with
  |some (.v (.int k n),bx,fp)=>some ((.v (.int k n'),bx,fp),n=n')
  |_=>none
 |.x y'=>match au Γ σ i with
  |some (y,bx,fp)=>some ((y',bx,fp),y=y')
  |none=>none
 |.c y bx fp=>match i with
  |.call own ref raw f args=>match σ.ev f,evs σ args with
   |some f,some as=>some ((y,bx,fp),qY Γ own ref raw f as σ.bx=some (y,bx,fp))
   |_,_=>none
  |_=>none
 |.e l=>match i with
  |.iaddr none sz z j=>match σ.ev z,(σ.ev j).bind ER with
   |some (.sl _ s es),some n=>if s==sz then some ((.dp l,σ.bx,⟨false,[],[]⟩),es[n]?=some l) else none
   |_,_=>none
  |_=>none
 |.p y=>zlJ Γ σ y i
 |.d as y=>zlP Γ σ as y i
 |.app=>zlR σ i
 |.fresh=>zlO σ i
 |.mk=>zlL σ i
 |.o y out=>zlK Γ σ y out i
 |.r y out=>zlI Γ σ y out i
 |.cut=>zlQ σ i
 |.cutz=>zlF σ i
 |.at=>zlH σ i
 |.ld cs=>zlM σ cs i
 |.st cs=>zlG σ cs i
 |.g y=>zlN σ y i
 |.pm es=>zfu σ es i
theorem bP {Γ:Gam}{g:FuncId}{as:List X}{x y:X}{bx:List Bx}(h:Γ (.fn g) as []=some (x,bx))(hd:x.data bx false=some y):Γ.pureD g as=some y:=by
 simp only [Gam.pureD,h,hd]
theorem SB {Γ:Gam}{σ:St}{i:I}{a:Ans}{q:X×List Bx×FP}{p:Prop}(h:zfv Γ σ i a=some (q,p))(hp:p):au Γ σ i=some q:=by
 cases a with
 |p y=>exact Sr h hp
 |d as y=>exact SG h hp
 |app=>exact SI h hp
 |fresh=>exact SE h hp
 |mk=>exact Sz h hp
 |o y out=>exact Sv h hp
 |r y out=>exact Sm h hp
 |cut=>exact SH h hp
 |cutz=>exact Si h hp
 |«at»=>exact Sl h hp
 |ld cs=>exact SA h hp
 |st cs=>exact Sj h hp
 |g y=>exact SC h hp
 |pm es=>exact MZ h hp
 |b t'=>
  simp only [zfv] at h
  split at h
  ·rename_i t bx fp hs
   simp only [Option.some.injEq,Prod.mk.injEq] at h
   obtain ⟨rfl,rfl⟩:=h
   rw [hs,hp]
  ·simp at h
 |i n'=>
  simp only [zfv] at h
  split at h
  ·rename_i k n bx fp hs
   simp only [Option.some.injEq,Prod.mk.injEq] at h
   obtain ⟨rfl,rfl⟩:=h
   rw [hs,hp]
  ·simp at h
 |x y'=>
  simp only [zfv] at h
  split at h
  ·rename_i y bx fp hs
   simp only [Option.some.injEq,Prod.mk.injEq] at h
   obtain ⟨rfl,rfl⟩:=h
   rw [hs,hp]
  ·simp at h
 |c y bx fp=>
  simp only [zfv] at h
  split at h
  ·split at h
   ·rename_i f as hf ha
    simp only [Option.some.injEq,Prod.mk.injEq] at h
    obtain ⟨rfl,rfl⟩:=h
    simp only [au,hf,ha];exact hp
   ·simp at h
  ·simp at h
 |e l=>
  simp only [zfv] at h
  split at h
  ·split at h
   ·rename_i t s es n hz hj
    split at h
    ·rename_i hs
     simp only [Option.some.injEq,Prod.mk.injEq] at h
     obtain ⟨rfl,rfl⟩:=h
     simp only [au,hz,hj,hs,if_true,hp,Option.map_some]
    ·simp at h
   ·simp at h
  ·simp at h
def zh4:List (Nat×Ans)→Option Nat→Option Ans
 |_,none=>none
 |[],some _=>none
 |(k,a)::r,some d=>if k==d then some a else zh4 r (some d)
def zh5 (i:Ins):Option Nat:=match i.dst with
 |some d=>some d
 |none=>match i.op with
  |.store _ (.t a) _=>some (a+1000000)
  |.zbg _ (.t a) _ _=>some (a+1000000)
  |_=>none
def goA (Γ:Gam)(ans:List (Nat×Ans))(i:Ins)(σ:St):Option (St×FP×List Prop):=
 match zh4 ans (zh5 i) with
 |none=>match oC Γ i σ with
  |none=>none
  |some (σ',fp)=>some (σ',fp,[])
 |some a=>match zfv Γ σ i.op a with
  |none=>none
  |some ((y,bx,fp),p)=>some (⟨uN i.dst y σ.tm,bx⟩,fp,[p])
def lU:List Prop→Prop
 |[]=>True
 |p::r=>p∧lU r
theorem eP:∀{l m:List Prop},lU (l++m)↔lU l∧lU m
 |[],m=>by simp [lU]
 |p::r,m=>by simp [lU,eP (l:=r),and_assoc]
theorem IK {Γ:Gam}{ans:List (Nat×Ans)}{i:Ins}{σ σ':St}{fp:FP}{ps:List Prop}(h:goA Γ ans i σ=some (σ',fp,ps))(hp:lU ps):oC Γ i σ=some (σ',fp):=by
 unfold goA at h
 split at h
 ·split at h
  ·simp at h
  ·rename_i hs
   simp only [Option.some.injEq,Prod.mk.injEq] at h
   obtain ⟨rfl,rfl,_⟩:=h
   exact hs
 ·split at h
  ·simp at h
  ·rename_i hs
   simp only [Option.some.injEq,Prod.mk.injEq] at h
   obtain ⟨rfl,rfl,rfl⟩:=h
   simp only [oC,SB hs hp.1]
def stepA (Γ:Gam)(ans:List (Nat×Ans))(i:Ins)(σ:St):Option (St×FP×List Prop):=
 match i.g with
 |none=>goA Γ ans i σ
 |some (s,want)=>match lk σ.tm s with
  |some (.v (.bool b))=>if b==want then goA Γ ans i σ else some (⟨uN i.dst undefX σ.tm,σ.bx⟩,⟨false,[],[]⟩,[])
  |some (.v (.tuple _))=>some (⟨uN i.dst undefX σ.tm,σ.bx⟩,⟨false,[],[]⟩,[])
  |_=>none
theorem JG {Γ:Gam}{ans:List (Nat×Ans)}{i:Ins}{σ σ':St}{fp:FP}{ps:List Prop}(h:stepA Γ ans i σ=some (σ',fp,ps))(hp:lU ps):step Γ i σ=some (σ',fp):=by
 unfold stepA at h
 unfold step
 split at h
 ·rename_i hg
  rw [hg];exact IK h hp
 ·rename_i s want hg
  rw [hg]
  dsimp only
  split at h
  ·rename_i b hb
   rw [hb];dsimp only
   by_cases hw:(b==want)=true
   ·rw [if_pos hw] at h ⊢;exact IK h hp
   ·rw [if_neg hw] at h ⊢
    simp only [Option.some.injEq,Prod.mk.injEq] at h
    obtain ⟨rfl,rfl,_⟩:=h
    rfl
  ·rename_i t hb
   rw [hb]
   simp only [Option.some.injEq,Prod.mk.injEq] at h
   obtain ⟨rfl,rfl,_⟩:=h
   rfl
  ·simp at h
def stepsA (Γ:Gam)(ans:List (Nat×Ans)):List Ins→St→Option (St×List FP×List Prop)
 |[],σ=>some (σ,[],[])
 |i::r,σ=>match stepA Γ ans i σ with
  |none=>none
  |some (σ',fp,ps)=>match stepsA Γ ans r σ' with
   |none=>none
   |some (SN,fps,qs)=>some (SN,fp::fps,ps++qs)
theorem vY {Γ:Gam}{ans:List (Nat×Ans)}:∀{l:List Ins} {σ σ':St} {fps:List FP} {ps:List Prop},stepsA Γ ans l σ=some (σ',fps,ps)→lU ps→steps Γ l σ=some (σ',fps)
 |[],σ,σ',fps,ps,h,_=>by
  simp only [stepsA,Option.some.injEq,Prod.mk.injEq] at h
  obtain ⟨rfl,rfl,_⟩:=h
  rfl
 |i::r,σ,σ',fps,ps,h,hp=>by
  simp only [stepsA] at h
  split at h
  ·simp at h
  ·rename_i σ1 fp ps1 h1
   split at h
   ·simp at h
   ·rename_i σ2 zp2 qs h2
    simp only [Option.some.injEq,Prod.mk.injEq] at h
    obtain ⟨rfl,rfl,rfl⟩:=h
    obtain ⟨hp1,hp2⟩:=eP.1 hp
    simp only [steps,JG h1 hp1,vY h2 hp2,Option.map_some]
mutual
def X.ends (i:Nat):X→List Nat
 |.bs j off len=>if j==i then [off+len] else []
 |.agg cs=>Bo i cs
 |.tup cs=>Bo i cs
 |.fn _ cs=>Bo i cs
 |_=>[]
def Bo (i:Nat):List X→List Nat
 |[]=>[]
 |x::r=>x.ends i++Bo i r
end
def Bx.ends (i:Nat):Bx→List Nat
 |.var cs=>Bo i cs
 |.loop _ _ tm _ _ _=>Bo i (tm.map (·.2))
 |_=>[]
def Jm (i:Nat):List Bx→List Nat
 |[]=>[]
 |b::r=>b.ends i++Jm i r
mutual
theorem Jz {i n:Nat}:∀(x:X),(∀e,e∈x.ends i→e≤n)→x.within i n=true
 |.bs j off len,h=>by
  simp only [X.within,Bool.or_eq_true,Bool.not_eq_true',decide_eq_true_eq]
  cases hj:(j==i) with
  |false=>exact .inl rfl
  |true=>exact .inr (h _ (by simp [X.ends,hj]))
 |.agg cs,h=>by simp only [X.within];exact fD cs (by simpa [X.ends] using h)
 |.tup cs,h=>by simp only [X.within];exact fD cs (by simpa [X.ends] using h)
 |.fn _ cs,h=>by simp only [X.within];exact fD cs (by simpa [X.ends] using h)
 |.ptr ..,_=>rfl
 |.yl _,_=>rfl
 |.mp _,_=>rfl
 |.ifc,_=>rfl
 |.v _,_=>rfl
 |.sl ..,_=>rfl
 |.dp _,_=>rfl
theorem fD {i n:Nat}:∀(cs:List X),(∀e,e∈Bo i cs→e≤n)→gq i n cs=true
 |[],_=>rfl
 |x::r,h=>by
  simp only [gq,Bool.and_eq_true]
  exact ⟨Jz x fun e he=>h e (by simp [Bo,he]),fD r fun e he=>h e (by simp [Bo,he])⟩
end
theorem Xm {i n:Nat}:∀(bx:List Bx),(∀e,e∈Jm i bx→e≤n)→bx.all (Bx.within i n)=true
 |[],_=>rfl
 |b::r,h=>by
  simp only [List.all_cons,Bool.and_eq_true]
  refine ⟨?_,Xm r fun e he=>h e (by simp [Jm,he])⟩
  have hb:∀e,e∈b.ends i→e≤n:=fun e he=>h e (by simp [Jm,he])
  cases b with
  |var cs=>exact fD cs hb
  |loop st p tm ps a c=>exact fD _ hb
  |row=>rfl
  |map=>rfl
  |dead=>rfl
def zc9 (n:Nat):List Nat→List Prop
 |[]=>[]
 |e::r=>(e≤n)::zc9 n r
theorem Iq {n:Nat}:∀{l:List Nat},lU (zc9 n l)→∀e,e∈l→e≤n
 |[],_,e,he=>by simp at he
 |a::r,h,e,he=>by
  rcases List.mem_cons.1 he with rfl|he
  ·exact h.1
  ·exact Iq h.2 e he
def LU (i:Nat)(σ:St):Option (St×List Prop):=
 match σ.bx[i]? with
 |some (.row sz es)=>some (⟨zf1 i sz es σ.tm,(σ.bx.map (Bx.frz i sz es)).set i .dead⟩,zc9 es.length (Bo i (σ.tm.map (·.2))++Jm i σ.bx))
 |_=>none
theorem E8 {i:Nat}{σ σ':St}{ps:List Prop}(h:LU i σ=some (σ',ps))(hp:lU ps):freeze i σ=some σ':=by
 unfold LU at h
 unfold freeze
 split at h
 ·rename_i sz es hb
  simp only [Option.some.injEq,Prod.mk.injEq] at h
  obtain ⟨rfl,rfl⟩:=h
  have h1:=Iq hp
  have:Hf σ i es.length=true:=by
   simp only [Hf,Bool.and_eq_true]
   exact ⟨fD _ fun e he=>h1 e (by simp [he]),Xm _ fun e he=>h1 e (by simp [he])⟩
  simp only [hb,this,if_true]
 ·simp at h
def nN:List Nat→St→Option (St×List Prop)
 |[],σ=>some (σ,[])
 |i::r,σ=>match σ.bx[i]? with
  |some (.row _ _)=>match LU i σ with
   |some (σ',ps)=>match nN r σ' with
    |some (SN,qs)=>some (SN,ps++qs)
    |none=>none
   |none=>none
  |_=>nN r σ
theorem iZ:∀{l:List Nat} {σ σ':St} {ps:List Prop},nN l σ=some (σ',ps)→lU ps→freezes l σ=some σ'
 |[],σ,σ',ps,h,_=>by
  simp only [nN,Option.some.injEq,Prod.mk.injEq] at h
  obtain ⟨rfl,_⟩:=h;rfl
 |i::r,σ,σ',ps,h,hp=>by
  simp only [nN] at h
  simp only [freezes]
  split at h
  ·rename_i hb
   split at h
   ·rename_i σ1 ps1 h1
    split at h
    ·rename_i σ2 qs h2
     simp only [Option.some.injEq,Prod.mk.injEq] at h
     obtain ⟨rfl,rfl⟩:=h
     obtain ⟨p1,p2⟩:=eP.1 hp
     simp only [hb,E8 h1 p1,Option.bind_some]
     exact iZ h2 p2
    ·simp at h
   ·simp at h
  ·rename_i hb
   split
   ·rename_i sz es hb2;exact absurd hb2 (hb sz es)
   ·exact iZ h hp
def Dj (σ:St):Gh→Option (St×List Prop)
 |.frzA s=>match lk σ.tm s with
  |some (.ptr i _ _)=>match σ.bx[i]? with
   |some (.var cs)=>nN (fO cs) σ
   |_=>some (σ,[])
  |some x=>nN x.rows σ
  |none=>some (σ,[])
 |g=>match ghost σ g with
  |some σ'=>some (σ',[])
  |none=>none
theorem IL {σ σ':St}{g:Gh}{ps:List Prop}(h:Dj σ g=some (σ',ps))(hp:lU ps):ghost σ g=some σ':=by
 cases g with
 |frzA s=>
  simp only [Dj] at h
  simp only [ghost]
  split at h
  ·rename_i i e o hs
   rw [hs]
   dsimp only
   split at h
   ·rename_i cs hb
    rw [hb];exact iZ h hp
   ·rename_i hb
    simp only [Option.some.injEq,Prod.mk.injEq] at h
    obtain ⟨rfl,_⟩:=h
    split
    ·rename_i cs hb2;exact absurd hb2 (hb cs)
    ·rfl
  ·rename_i x hx hs
   rw [hs]
   cases x with
   |ptr i e o=>exact (hx i e o rfl).elim
   |_=>exact iZ h hp
  ·rename_i hs
   rw [hs]
   simp only [Option.some.injEq,Prod.mk.injEq] at h
   obtain ⟨rfl,_⟩:=h;rfl
 |thaw s o=>
  simp only [Dj] at h
  split at h
  ·rename_i σ1 h1
   simp only [Option.some.injEq,Prod.mk.injEq] at h
   obtain ⟨rfl,_⟩:=h;exact h1
  ·simp at h
 |frz s o=>
  simp only [Dj] at h
  split at h
  ·rename_i σ1 h1
   simp only [Option.some.injEq,Prod.mk.injEq] at h
   obtain ⟨rfl,_⟩:=h;exact h1
  ·simp at h
 |frzV s=>
  simp only [Dj] at h
  split at h
  ·rename_i σ1 h1
   simp only [Option.some.injEq,Prod.mk.injEq] at h
   obtain ⟨rfl,_⟩:=h;exact h1
  ·simp at h
def ghostsA:List Gh→St→Option (St×List Prop)
 |[],σ=>some (σ,[])
 |g::r,σ=>match Dj σ g with
  |none=>none
  |some (σ',ps)=>match ghostsA r σ' with
   |none=>none
   |some (SN,qs)=>some (SN,ps++qs)
theorem ug:∀{l:List Gh} {σ σ':St} {ps:List Prop},ghostsA l σ=some (σ',ps)→lU ps→ghosts l σ=some σ'
 |[],σ,σ',ps,h,_=>by
  simp only [ghostsA,Option.some.injEq,Prod.mk.injEq] at h
  obtain ⟨rfl,_⟩:=h;rfl
 |g::r,σ,σ',ps,h,hp=>by
  simp only [ghostsA] at h
  split at h
  ·simp at h
  ·rename_i σ1 ps1 h1
   split at h
   ·simp at h
   ·rename_i σ2 qs h2
    simp only [Option.some.injEq,Prod.mk.injEq] at h
    obtain ⟨rfl,rfl⟩:=h
    obtain ⟨p1,p2⟩:=eP.1 hp
    simp only [ghosts,IL h1 p1,ug h2 p2]
def VA (nIn:Nat)(f:St→List (Ex×St)→Option (Ex×St×List (Ex×St)×List Prop)):Nat→St→List (Ex×St)→Option (Ex×St×List (Ex×St)×List Prop)
 |0,_,_=>none
 |n+1,σ,lo=>match canon nIn σ with
  |none=>none
  |some σ=>match f σ lo with
   |some (.norm,σ',lo',ps)=>match VA nIn f n σ' lo' with
    |some (e,SN,zoq,qs)=>some (e,SN,zoq,ps++qs)
    |none=>none
   |r=>r
theorem zD {nIn:Nat}{f:St→List (Ex×St)→Option (Ex×St×List (Ex×St)×List Prop)}{g:St→Option (Ex×St)}(hf:∀(σ σ':St) (lo lo':List (Ex×St)) (e:Ex) (ps:List Prop),f σ lo=some (e,σ',lo',ps)→lU ps→g σ=some (e,σ')):
  ∀{n:Nat} {σ σ':St} {lo lo':List (Ex×St)} {e:Ex} {ps:List Prop},VA nIn f n σ lo=some (e,σ',lo',ps)→lU ps→iter nIn g n σ=some (e,σ')
 |0,σ,σ',lo,lo',e,ps,h,_=>by simp [VA] at h
 |n+1,σ,σ',lo,lo',e,ps,h,hp=>by
  simp only [VA] at h
  simp only [iter]
  split at h
  ·simp at h
  ·rename_i σ1 hc
   rw [hc]
   dsimp only
   split at h
   ·rename_i σ2 lo2 ps1 h1
    split at h
    ·rename_i e3 σ3 lo3 qs h2
     simp only [Option.some.injEq,Prod.mk.injEq] at h
     obtain ⟨rfl,rfl,_,rfl⟩:=h
     obtain ⟨hp1,hp2⟩:=eP.1 hp
     rw [hf _ _ _ _ _ _ h1 hp1]
     exact zD hf h2 hp2
    ·simp at h
   ·rename_i hne
    rw [hf _ _ _ _ _ _ h hp]
    cases e with
    |norm=>exact absurd h (hne _ _ _)
    |exit k=>rfl
    |ret=>rfl
def yT (Γ:Gam)(ans:List (Nat×Ans))(nIn fu:Nat):C→St→List (Ex×St)→Option (Ex×St×List (Ex×St)×List Prop)
 |.skip,σ,lo=>some (.norm,σ,lo,[])
 |.reg gh draw l live,σ,lo=>match ghostsA gh σ with
  |none=>none
  |some (σ,qs)=>match stepsA Γ ans l σ with
   |none=>none
   |some (σ',fps,ps)=>if pairsOk l fps draw then some (.norm,⟨keep live σ'.tm,σ'.bx⟩,lo,qs++ps) else none
 |.seq a b,σ,lo=>match yT Γ ans nIn fu a σ lo with
  |some (.norm,σ',lo,ps)=>match yT Γ ans nIn fu b σ' lo with
   |some (e,SN,lo,qs)=>some (e,SN,lo,ps++qs)
   |none=>none
  |r=>r
 |.cond c a b,σ,lo=>match σ.ev c with
  |some (.v (.bool t))=>if t then yT Γ ans nIn fu a σ lo else yT Γ ans nIn fu b σ lo
  |_=>none
 |.block id b,σ,lo=>match yT Γ ans nIn fu b σ lo with
  |some (.exit j,σ',lo,ps)=>if j==id then some (.norm,σ',lo,ps) else some (.exit j,σ',lo,ps)
  |r=>r
 |.loop b,σ,o::lo=>some (o.1,o.2,lo,[run Γ nIn fu (.loop b) σ=some o])
 |.loop b,σ,[]=>VA nIn (fun σ lo=>yT Γ ans nIn fu b σ lo) fu σ []
 |.rf f ps live as b,σ,o::lo=>some (o.1,o.2,lo,[run Γ nIn fu (.rf f ps live as b) σ=some o])
 |.rf f ps live as b,σ,[]=>match run Γ nIn fu (.rf f ps live as b) σ with
  |some (e,σ')=>some (e,σ',[],[])
  |none=>none
 |.exit id,σ,lo=>some (.exit id,σ,lo,[])
 |.ret,σ,lo=>some (.ret,σ,lo,[])
 |.stuck,_,_=>none
theorem iQ {Γ:Gam}{ans:List (Nat×Ans)}{nIn fu:Nat}:∀{m:C} {σ σ':St} {lo lo':List (Ex×St)} {e:Ex} {ps:List Prop},yT Γ ans nIn fu m σ lo=some (e,σ',lo',ps)→lU ps→run Γ nIn fu m σ=some (e,σ'):=by
 intro m
 induction m with
 |skip=>
  intro σ σ' lo lo' e ps h _
  simp only [yT,Option.some.injEq,Prod.mk.injEq] at h
  obtain ⟨rfl,rfl,_⟩:=h;rfl
 |exit id=>
  intro σ σ' lo lo' e ps h _
  simp only [yT,Option.some.injEq,Prod.mk.injEq] at h
  obtain ⟨rfl,rfl,_⟩:=h;rfl
 |ret=>
  intro σ σ' lo lo' e ps h _
  simp only [yT,Option.some.injEq,Prod.mk.injEq] at h
  obtain ⟨rfl,rfl,_⟩:=h;rfl
 |stuck=>intro σ σ' lo lo' e ps h _;simp [yT] at h
 |reg gh draw l live=>
  intro σ σ' lo lo' e ps h hp
  simp only [yT] at h
  split at h
  ·simp at h
  ·rename_i σ1 gps hg
   split at h
   ·simp at h
   ·rename_i σ2 fps qs hs
    split at h
    ·rename_i hpo
     simp only [Option.some.injEq,Prod.mk.injEq] at h
     obtain ⟨rfl,rfl,_,rfl⟩:=h
     obtain ⟨p1,p2⟩:=eP.1 hp
     simp only [run,ug hg p1,vY hs p2,hpo,if_true]
    ·simp at h
 |seq a b iha ihb=>
  intro σ σ' lo lo' e ps h hp
  simp only [yT] at h
  split at h
  ·rename_i σ1 lo1 ps1 h1
   split at h
   ·rename_i e2 σ2 lo2 qs h2
    simp only [Option.some.injEq,Prod.mk.injEq] at h
    obtain ⟨rfl,rfl,_,rfl⟩:=h
    obtain ⟨hp1,hp2⟩:=eP.1 hp
    simp only [run,iha h1 hp1,ihb h2 hp2]
   ·simp at h
  ·rename_i hne
   have h1:=iha h hp
   simp only [run,h1]
   cases e with
   |norm=>exact absurd h (hne _ _ _)
   |exit k=>rfl
   |ret=>rfl
 |cond c a b iha ihb=>
  intro σ σ' lo lo' e ps h hp
  simp only [yT] at h
  split at h
  ·rename_i t ht
   cases t with
   |true=>simp only [if_true] at h;simp only [run,ht,if_true];exact iha h hp
   |false=>simp only [Bool.false_eq_true,if_false] at h;simp only [run,ht,Bool.false_eq_true,if_false];exact ihb h hp
  ·simp at h
 |block id b ih=>
  intro σ σ' lo lo' e ps h hp
  simp only [yT] at h
  split at h
  ·rename_i j σ1 lo1 ps1 h1
   by_cases hj:(j==id)=true
   ·rw [if_pos hj] at h
    simp only [Option.some.injEq,Prod.mk.injEq] at h
    obtain ⟨rfl,rfl,_,rfl⟩:=h
    simp only [run,ih h1 hp,if_pos hj]
   ·rw [if_neg hj] at h
    simp only [Option.some.injEq,Prod.mk.injEq] at h
    obtain ⟨rfl,rfl,_,rfl⟩:=h
    simp only [run,ih h1 hp,if_neg hj]
  ·rename_i hne
   have h1:=ih h hp
   simp only [run,h1]
   cases e with
   |norm=>rfl
   |exit k=>exact absurd h (hne _ _ _ _)
   |ret=>rfl
 |loop b ih=>
  intro σ σ' lo lo' e ps h hp
  cases lo with
  |nil=>
   simp only [yT] at h
   simp only [run]
   exact zD (fun σ σ' lo lo' e ps h hp=>ih h hp) h hp
  |cons o lo=>
   simp only [yT,Option.some.injEq,Prod.mk.injEq] at h
   obtain ⟨rfl,rfl,_,rfl⟩:=h
   exact hp.1
 |rf f qs live as b _ _=>
  intro σ σ' lo lo' e ps h hp
  cases lo with
  |nil=>
   simp only [yT] at h
   split at h
   ·rename_i e1 σ1 h1
    simp only [Option.some.injEq,Prod.mk.injEq] at h
    obtain ⟨rfl,rfl,_⟩:=h
    exact h1
   ·simp at h
  |cons o lo=>
   simp only [yT,Option.some.injEq,Prod.mk.injEq] at h
   obtain ⟨rfl,rfl,_,rfl⟩:=h
   exact hp.1
def NK (Γ:Gam)(fu:Nat)(ans:List (Nat×Ans))(args:List X)(inb:List Bx):Option (Option (X×List Bx)×List Prop):=
 match args with
 |.yl i::as=>match inb[i]? with
  |some (.loop .ready none tm ps assign body)=>
   match zipPs ps as tm with
   |none=>none
   |some tm=>match yT Γ ans inb.length fu assign ⟨tm,inb⟩ [] with
    |some (.norm,σ,_,ps1)=>match beginL σ.bx i with
     |none=>none
     |some bx=>match yT Γ ans inb.length fu body ⟨σ.tm,bx⟩ [] with
      |none=>none
      |some (.norm,σ,_,ps2)=>some ((setLoop σ.bx i .busy .ready none).bind fun bx=>pack inb.length (.v (.bool true)) bx,ps1++ps2)
      |some (e,σ,_,ps2)=>some ((setLoop σ.bx i .busy .done (some e)).bind fun bx=>pack inb.length (.v (.bool false)) bx,ps1++ps2)
    |_=>none
  |_=>none
 |_=>none
theorem Ho {Γ:Gam}{fu:Nat}{ans:List (Nat×Ans)}{args:List X}{inb:List Bx}{r:Option (X×List Bx)}{ps:List Prop}(h:NK Γ fu ans args inb=some (r,ps))(hp:lU ps):zfQ Γ fu args inb=r:=by
 unfold NK at h
 split at h
 ·rename_i i as
  split at h
  ·rename_i tm qs assign body hb
   split at h
   ·simp at h
   ·rename_i tm' hz
    split at h
    ·rename_i σ1 lo1 ps1 h1
     split at h
     ·simp at h
     ·rename_i bx zi2
      split at h
      ·simp at h
      ·rename_i σ2 lo2 ps2 h2
       simp only [Option.some.injEq,Prod.mk.injEq] at h
       obtain ⟨rfl,rfl⟩:=h
       obtain ⟨p1,p2⟩:=eP.1 hp
       simp only [zfQ,hb,hz,iQ h1 p1,zi2,iQ h2 p2]
      ·rename_i h2
       simp only [Option.some.injEq,Prod.mk.injEq] at h
       obtain ⟨rfl,rfl⟩:=h
       obtain ⟨p1,p2⟩:=eP.1 hp
       simp only [zfQ,hb,hz,iQ h1 p1,zi2,iQ h2 p2]
    ·simp at h
  ·simp at h
 ·simp at h
theorem Gs {T:FuncId→Option Fun}{ext:Ext}{n:Nat}{ans:List (Nat×Ans)}{args:List X}{inb:List Bx}{r:Option (X×List Bx)}{ps:List Prop}(h:NK (callF T ext n) n ans args inb=some (r,ps))(hp:lU ps):
  callF T ext (n+1) .yl args inb=r:=by
 simp only [callF];exact Ho h hp
def zlk (Γ:Gam)(fu:Nat)(ans:List (Nat×Ans))(lo:List (Ex×St))(fd:Fun)(args:List X)(inb:List Bx):Option (Option (X×List Bx)×List Prop):=
 if args.length==fd.np then
  match yT Γ ans inb.length fu fd.body ⟨zipTm 0 args,inb⟩ lo with
  |some (.norm,σ,_,ps)|some (.ret,σ,_,ps)=>some ((resX σ fd.res).bind fun xs=>pack inb.length (packRes xs) σ.bx,ps)
  |_=>none
 else none
theorem Rk {Γ:Gam}{fu:Nat}{ans:List (Nat×Ans)}{lo:List (Ex×St)}{fd:Fun}{args:List X}{inb:List Bx}{r:Option (X×List Bx)}{ps:List Prop}(h:zlk Γ fu ans lo fd args inb=some (r,ps))(hp:lU ps):zfR Γ fu fd args inb=r:=by
 unfold zlk at h
 unfold zfR
 split at h
 ·rename_i hl
  rw [if_pos hl]
  split at h
  ·rename_i hr
   simp only [Option.some.injEq,Prod.mk.injEq] at h
   obtain ⟨rfl,rfl⟩:=h
   rw [iQ hr hp]
  ·rename_i hr
   simp only [Option.some.injEq,Prod.mk.injEq] at h
   obtain ⟨rfl,rfl⟩:=h
   rw [iQ hr hp]
  ·simp at h
 ·simp at h
def zaG (T:FuncId→Option Fun)(ext:Ext)(n:Nat)(ans:List (Nat×Ans))(lo:List (Ex×St))(f:FuncId)(args:List X)(inb:List Bx):Option (Option (X×List Bx)×List Prop):=
 match ext f with
 |some _=>none
 |none=>match T f with
  |some fd=>zlk (callF T ext n) n ans lo fd args inb
  |none=>none
theorem Aw {T:FuncId→Option Fun}{ext:Ext}{n:Nat}{ans:List (Nat×Ans)}{lo:List (Ex×St)}{f:FuncId}{args:List X}{inb:List Bx}{r:Option (X×List Bx)}{ps:List Prop}(h:zaG T ext n ans lo f args inb=some (r,ps))(hp:lU ps):
  callF T ext (n+1) (.fn f) args inb=r:=by
 unfold zaG at h
 simp only [callF]
 split at h
 ·simp at h
 ·rename_i he
  rw [he]
  split at h
  ·rename_i fd hfd
   rw [hfd]
   exact Rk h hp
  ·simp at h
theorem dG {nIn n:Nat}{f:St→Option (Ex×St)}{τ σ τ':St}{r:Option (Ex×St)}(hc:canon nIn τ=some σ)(hf:f σ=some (.norm,τ'))(hr:iter nIn f n τ'=r):iter nIn f (n+1) τ=r:=by
 simp only [iter,hc,hf,hr]
theorem bC {nIn n:Nat}{f:St→Option (Ex×St)}{τ σ τ':St}{e:Ex}(hc:canon nIn τ=some σ)(hf:f σ=some (e,τ'))(he:e≠.norm):iter nIn f (n+1) τ=some (e,τ'):=by
 simp only [iter,hc,hf]
 cases e<;>first|rfl|exact absurd rfl he
def C.at:List Nat→C→C
 |[],c=>c
 |0::p,.seq a _=>C.at p a
 |_::p,.seq _ b=>C.at p b
 |0::p,.cond _ a _=>C.at p a
 |_::p,.cond _ _ b=>C.at p b
 |_::p,.block _ b=>C.at p b
 |_::p,.loop b=>C.at p b
 |0::p,.rf _ _ _ a _=>C.at p a
 |_::p,.rf _ _ _ _ b=>C.at p b
 |_,c=>c
def bodyOf (T:FuncId→Option Fun)(f:FuncId):C:=match T f with
 |some fd=>fd.body
 |none=>.skip
def C.loops:C→List C
 |.seq a b|.cond _ a b|.rf _ _ _ a b=>a.loops++b.loops
 |.block _ b=>b.loops
 |.loop b=>b::b.loops
 |_=>[]
end Go.Em
