/-.-/
import Derived.Test.YtpcjeobkehmhpaaGreatDoorEmU0
import Derived.Test.YtpcjeobkehmhpaaGreatDoorEmU5
set_option linter.unusedSimpArgs false
set_option linter.unusedVariables false
namespace Go.Em
variable {ext:Ext}{fp:FP}{g:FuncId}{T:FuncId->Option Fun}{Γ:Gam}{i:I}{lo:List (Ex×St)}{bx inb out outb:List Bx}{ps:List Prop}{args as cs:List X}{fu n nIn:Nat}{r:Option (X×List Bx)}{p:Prop}{σ σ' τ τ':St}{f:St->Option (Ex×St)}{y:X}{q:X×List Bx×FP}
inductive Ans where
 |b (t:Bool)
 |i (n:Int)
 |x (y:X)
 |c (y:X) (bx:List Bx) (fp:FP)
 |e (l:List X)
 |p (y:X)
 |app
 |fresh
 |mk
 |o (y:X) (out:List Bx)
 |r (y:X) (out:List Bx)
 |d (as:List X) (y:X)
 |cut
 |ztG
 |at
 |ld (cs:List X)
 |st (cs:List X)
 |g (y:X)
 |pm (es:List (Value×X))
variable {ans:List (Nat×Ans)}
def zrW (Γ:Gam)(σ:St)(y:X):I->Option ((X×List Bx×FP)×Prop)
 |.call own ref raw f args=>match σ.ev f,evs σ args with
  |some (.fn g caps),some zs=>match dZ σ.bx raw zs with
   |some as=>if !ref&&(!own&&!ref&&(bZ (as++caps)).isEmpty)&&(oh y&&((iQ zs).isEmpty||y.plain)) then some ((y,σ.bx,⟨false,iQ zs,[]⟩),Γ.aF g (as++caps)=some y) else none
   |none=>none
  |_,_=>none
 |_=>none
theorem WS (h:zrW Γ σ y i=some (q,p))(hp:p):aG Γ σ i=some q:=by
 unfold zrW at h;split at h
 ·rename_i own ref raw f args;split at h;next g caps zs hf ha=>split at h<;>simp_all[aG,uI]
  grind
 grind
def zr2 (Γ:Gam)(σ:St)(as:List X)(y:X):I->Option ((X×List Bx×FP)×Prop)
 |.call own ref raw f args=>match σ.ev f,evs σ args with
  |some (.fn g caps),some zs=>if !ref&&(!own&&!ref&&(bZ (as++caps)).isEmpty)&&(oh y&&((iQ zs).isEmpty||y.plain)) then some ((y,σ.bx,⟨false,iQ zs,[]⟩),dZ σ.bx raw zs=some as/\Γ.aF g (as++caps)=some y) else none
  |_,_=>none
 |_=>none
theorem WZ (h:zr2 Γ σ as y i=some (q,p))(hp:p):aG Γ σ i=some q:=by
 unfold zr2 at h;split at h;next own ref raw f args=>split at h<;>simp_all[aG,uI]
 grind
def zr4 (σ:St):I->Option ((X×List Bx×FP)×Prop)
 |.app _ sz bytes s z=>match σ.ev s,σ.ev z with
  |some (.bs i off len),some y=>match σ.bx[i]?,o8 σ.bx y with
   |some (.row sz0 es),some (sz',new)=>if sz'==sz&&sz0==sz then
     some ((.bs σ.bx.length 0 (len+new.length),σ.bx.set i .dead++[.row sz (es.drop off++new)],⟨true,y.rows,[i,σ.bx.length]⟩),off+len=es.length/\dD (len+new.length) bytes=true/\sD i y.rows=false) else none
   |_,_=>none
  |_,_=>none
 |_=>none
theorem Xa (h:zr4 σ i=some (q,p))(hp:p):aG Γ σ i=some q:=by
 unfold zr4 at h;split at h
 ·rename_i own sz bytes s z;split at h;next i off len y hs hz=>split at h<;>simp_all[aG]
  grind
 grind
def zr1 (σ:St):I->Option ((X×List Bx×FP)×Prop)
 |.app own sz bytes s z=>match σ.ev s,σ.ev z with
  |some (.sl true sz0 es),some y=>match o8 σ.bx y with
   |some (sz',new)=>if sz'==sz&&sz0==sz then
     (if own then some ((.bs σ.bx.length 0 (es.length+new.length),σ.bx++[.row sz (es++new)],⟨true,y.rows,[σ.bx.length]⟩),new.isEmpty=false/\dD (es.length+new.length) bytes=true)
      else some ((.sl false sz (es++new),σ.bx,⟨false,y.rows,[]⟩),dD (es.length+new.length) bytes=true)) else none
   |_=>none
  |_,_=>none
 |_=>none
theorem WY (h:zr1 σ i=some (q,p))(hp:p):aG Γ σ i=some q:=by
 unfold zr1 at h;split at h
 ·rename_i own sz bytes s z;split at h
  ·rename_i sz0 es y hs hz;split at h
   ·rename_i sz' new hsrc;split at h;next hc=>simp only [qab] at hc;split at h<;>simp_all[aG]
    grind
   grind
  grind
 grind
def zrY (σ:St):I->Option ((X×List Bx×FP)×Prop)
 |.zf0 bytes zero len cap=>match (σ.ev len).bind Xj,(σ.ev cap).bind Xj with
  |some n,some c=>some ((.bs σ.bx.length 0 n,σ.bx++[.row zero.length (List.replicate n zero)],⟨true,[],[σ.bx.length]⟩),n<=c/\dD c bytes=true)
  |_,_=>none
 |_=>none
theorem WU (h:zrY σ i=some (q,p))(hp:p):aG Γ σ i=some q:=by
 unfold zrY at h;split at h;·split at h<;>simp_all[aG]
 grind
mutual
theorem IV (f:Nat->Nat):∀(x:X),x.refs=[]->x.ren f=x
 |.bs ..,h=>by grind[X.refs]
 |.ptr ..,h=>by grind[X.refs]
 |.yl ..,h=>by grind[X.refs]
 |.mp ..,h=>by grind[X.refs]
 |.ifc,_=>rfl
 |.fn g cs,h=>by simp only [X.ren,nV f cs (by grind[X.refs])]
 |.agg cs,h=>by simp only [X.ren,nV f cs (by grind[X.refs])]
 |.tup cs,h=>by simp only [X.ren,nV f cs (by grind[X.refs])]
 |.v _,_=>rfl
 |.sl ..,_=>rfl
 |.dp _,_=>rfl
theorem nV (f:Nat->Nat):∀(cs:List X),bZ cs=[]->NZ f cs=cs
 |[],_=>rfl
 |x::r,h=>by simp only [bZ,List.append_eq_nil_iff] at h;simp only [NZ,IV f x h.1,nV f r h.2]
end
theorem QT {r:X}(h0:bZ args=[])(h:Γ (.fn g) args []=some (r,outb)):
  iT Γ (.fn g) args bx=some (r.ren (fun j=>bx.length+j),bx++outb.map (Bx.ren fun j=>bx.length+j),[]):=by
 have hs:reach bx iL (bZ args) []=[]:=by rw [h0];rfl
 have hp:Ez bx []=some []:=rfl<;>simp_all[iT,nV,Oj,ku]
def zrX (Γ:Gam)(σ:St)(y:X)(out:List Bx):I->Option ((X×List Bx×FP)×Prop)
 |.call own ref raw f args=>match σ.ev f,evs σ args with
  |some (.fn g caps),some zs=>match dZ σ.bx raw zs with
   |some as=>if own&&!ref&&(bZ (as++caps)).isEmpty&&(iQ zs).isEmpty then
     some ((y.ren (fun j=>σ.bx.length+j),σ.bx++out.map (Bx.ren fun j=>σ.bx.length+j),Ew [] [] σ.bx.length (σ.bx++out.map (Bx.ren fun j=>σ.bx.length+j)).length),Γ (.fn g) (as++caps) []=some (y,out)) else none
   |none=>none
  |_,_=>none
 |_=>none
theorem WT (h:zrX Γ σ y out i=some (q,p))(hp:p):aG Γ σ i=some q:=by
 unfold zrX at h;split at h
 ·rename_i own ref raw f args;split at h
  ·rename_i g caps zs hf ha;split at h
   ·rename_i as hd;split at h;next hc=>cases h;simp only [qab,Bool.not_eq_true'] at hc;obtain ⟨⟨⟨h1,hr⟩,h2⟩,h3⟩:=hc;subst hr;subst h1;have:=QT (bx:=σ.bx) (List.isEmpty_iff.1 h2) hp<;>simp_all[aG,uI]
    grind
   grind
  grind
 grind
def sO (Γ:Gam)(fv:Fv)(args:List X)(bx:List Bx)(y:X)(outb:List Bx):Option ((X×List Bx×List Nat)×Prop):=
 let sel:=reach bx iL (bZ args) []
 if Oj (bZ args) sel then
  match Ez bx sel with
  |none=>none
  |some inb=>
   if sel.length<=outb.length then
    let back:=fun j=>if j<sel.length then sel.getD j 0 else bx.length+(j-sel.length)
    let outs:=outb.map (Bx.ren back)
    some ((y.ren back,ku sel outs bx++outs.drop sel.length,sel),Γ fv (NZ (uO · sel) args) inb=some (y,outb))
   else none
 else none
theorem jP {fv:Fv}{q:X×List Bx×List Nat}(h:sO Γ fv args bx y outb=some (q,p))(hp:p):iT Γ fv args bx=some q:=by
 unfold sO at h;unfold iT
 grind
def zrV (Γ:Gam)(σ:St)(y:X)(out:List Bx):I->Option ((X×List Bx×FP)×Prop)
 |.call own ref raw f args=>match σ.ev f,evs σ args with
  |some (.yl i),some zs=>match dZ σ.bx raw zs with
   |some as=>if !ref&&(iQ zs).isEmpty then
     match sO Γ .yl (.yl i::as) σ.bx y out with
     |some ((x,bx',sel),p)=>some ((x,bx',Ew [] sel σ.bx.length bx'.length),p)
     |none=>none
    else none
   |none=>none
  |some (.fn g caps),some zs=>
   if ref then
    match sO Γ (.fn g) (zs++caps) σ.bx y out with
    |some ((x,bx',sel),p)=>some ((x,bx',Ew [] sel σ.bx.length bx'.length),p)
    |none=>none
   else match dZ σ.bx raw zs with
   |some as=>if !(!own&&(bZ (as++caps)).isEmpty)&&(iQ zs).isEmpty then
     match sO Γ (.fn g) (as++caps) σ.bx y out with
     |some ((x,bx',sel),p)=>some ((x,bx',Ew [] sel σ.bx.length bx'.length),p)
     |none=>none
    else none
   |none=>none
  |_,_=>none
 |_=>none
theorem WR (h:zrV Γ σ y out i=some (q,p))(hp:p):aG Γ σ i=some q:=by
 unfold zrV at h;split at h
 ·rename_i own ref raw f args;split at h
  ·rename_i j zs hf ha;split at h
   ·rename_i as hd;split at h
    ·rename_i hc;simp only [qab,Bool.not_eq_true'] at hc;obtain ⟨hr,hz⟩:=hc;subst hr;split at h;next x bx' sel p' hcr=>cases h;simp only [aG,hf,ha,uI,qaQ,if_false,hd,hz,Bool.or_true,if_true,jP hcr hp]
     grind
    grind
   grind
  ·rename_i g caps zs hf ha;split at h
   ·rename_i hr;subst hr;split at h;next x bx' sel p' hcr=>cases h;simp only [aG,hf,ha,uI,if_true,Bool.not_true,Bool.and_false,Bool.false_and,qaQ,if_false,Bool.true_or,jP hcr hp]
    grind
   rename_i hr;have hr':ref=false:=by simpa using hr
   subst hr';split at h
   ·rename_i as hd;split at h
    ·rename_i hc;simp only [qab,Bool.not_eq_true'] at hc;obtain ⟨hn,hz⟩:=hc;split at h
     ·rename_i x bx' sel p' hcr;cases h;have hn':(!own&&!false&&(bZ (as++caps)).isEmpty)=false:=by simpa using hn
      simp only [aG,hf,ha,uI,qaQ,if_false,hd,hn',hz,Bool.or_true,if_true,jP hcr hp]
     grind
    grind
   grind
  grind
 grind
def zr3 (σ:St):I->Option ((X×List Bx×FP)×Prop)
 |.slice sz x lo hi none=>match σ.ev x with
  |some (.sl t s es)=>match dQ σ 0 lo,dQ σ es.length hi with
   |some l,some h=>if s==sz then some ((.sl (t&&h==es.length) s ((es.take h).drop l),σ.bx,⟨false,[],[]⟩),l<=h/\h<=es.length) else none
   |_,_=>none
  |some (.bs i off len)=>match dQ σ 0 lo,dQ σ len hi with
   |some l,some h=>match σ.bx[i]? with
    |some (.row s _)=>if s==sz then some ((.bs i (off+l) (h-l),σ.bx,⟨false,[i],[]⟩),l<h/\h<=len) else none
    |_=>none
   |_,_=>none
  |_=>none
 |.tC x lo hi=>match σ.ev x with
  |some (.v (.string s))=>match dQ σ 0 lo,dQ σ s.size hi with
   |some l,some h=>some ((.v (.string (s.extract l h)),σ.bx,⟨false,[],[]⟩),l<=h/\h<=s.size)
   |_,_=>none
  |_=>none
 |_=>none
theorem W9 (h:zr3 σ i=some (q,p))(hp:p):aG Γ σ i=some q:=by
 unfold zr3 at h;split at h
 ·rename_i sz x lo hi;split at h;next t s es hx=>split at h<;>simp_all[aG]
  ·rename_i i off len hx;split at h
   ·rename_i l hh hl hhi;split at h
    ·rename_i s es hb;split at h
     ·rename_i hs;cases h
      grind[aG]
     grind
    grind
   grind
  grind
 ·rename_i x lo hi;split at h;next s hx=>split at h<;>simp_all[aG]
  grind
 grind
def zrS (σ:St):I->Option ((X×List Bx×FP)×Prop)
 |.slice sz x lo hi none=>match σ.ev x with
  |some (.bs _ _ len)=>match dQ σ 0 lo,dQ σ len hi with
   |some l,some h=>some ((.sl false sz [],σ.bx,⟨false,[],[]⟩),l=h/\h<=len)
   |_,_=>none
  |_=>none
 |_=>none
theorem WM (h:zrS σ i=some (q,p))(hp:p):aG Γ σ i=some q:=by
 unfold zrS at h;split at h
 ·split at h;next hx=>split at h<;>simp_all[aG]
  grind
 grind
def zrU (σ:St):I->Option ((X×List Bx×FP)×Prop)
 |.yg none sz z j=>match σ.ev z,(σ.ev j).bind Ju with
  |some (.bs i off len),some n=>match σ.bx[i]? with
   |some (.row s _)=>if s==sz then some ((.ptr i (off+n) 0,σ.bx,⟨false,[i],[]⟩),n<len) else none
   |_=>none
  |_,_=>none
 |.yg (some len) sz z j=>match σ.ev z,(σ.ev j).bind Ju with
  |some (.ptr i e o),some n=>some ((.ptr i e (o+n*sz),σ.bx,⟨false,[],[]⟩),n<len)
  |some (.dp cs),some n=>some ((.dp (cs.drop (n*sz)),σ.bx,⟨false,[],[]⟩),n<len)
  |_,_=>none
 |.zfO z j=>match σ.ev z,(σ.ev j).bind Ju with
  |some (.v (.string s)),some n=>some ((.v (.int .u8 ((s[n]?).getD 0).toNat),σ.bx,⟨false,[],[]⟩),n<s.size)
  |_,_=>none
 |.bin .add a b=>match σ.ev a,σ.ev b with
  |some (.v (.string s)),some (.v (.string t))=>some ((.v (.string (s++t)),σ.bx,⟨false,[],[]⟩),s.size+t.size<=9223372036854775807)
  |_,_=>none
 |_=>none
theorem WQ (h:zrU σ i=some (q,p))(hp:p):aG Γ σ i=some q:=by
 unfold zrU at h;split at h
 ·split at h;next hz hj=>split at h<;>simp_all[aG]
  grind
 ·split at h<;>simp_all[aG]
 ·split at h;next s n hz hj=>simp only [qag,qaJ] at h;obtain ⟨rfl,rfl⟩:=h<;>simp_all[aG]
  grind
 ·split at h
  ·rename_i s t ha hb;cases h;have hn:¬(((s.size+t.size:Nat):Int)>IntKind.i64.max):=by have:IntKind.i64.max=9223372036854775807:=rfl;omega
   have hv:kH .add (.string s) (.string t)=some (.string (s++t)):=by show bW (Op.stringOp .add s t)=_;unfold Op.stringOp;dsimp only;rw [if_neg hn];rfl
   grind[aG]
  grind
 grind
def zrZ (σ:St)(cs:List X):I->Option ((X×List Bx×FP)×Prop)
 |.load m a=>match σ.ev a with
  |some (.ptr i e o)=>match σ.bx[i]? with
   |some (.row _ es)=>match (match m with
     |none=>(cs.drop o).head?
     |some m=>if ((cs.drop o).take m).length==m then some (.agg ((cs.drop o).take m)) else none) with
    |some x=>some ((x,σ.bx,⟨false,[i],[]⟩),es[e]?=some cs)
    |none=>none
   |_=>none
  |_=>none
 |_=>none
theorem WV (h:zrZ σ cs i=some (q,p))(hp:p):aG Γ σ i=some q:=by
 unfold zrZ at h;split at h
 ·split at h
  ·rename_i ha;split at h
   ·rename_i hb;split at h
    ·rename_i x hx;cases h;rename_i m _ _ _ _ _ _ _ _ _;simp only [aG,ha,oq,jU,hb,hp,qao];cases m with
     |none=>dsimp only at hx ⊢;rw [hx];rfl
     |some m=>dsimp only at hx ⊢;rw [hx];rfl
    grind
   grind
  grind
 grind
def zrT (σ:St)(cs:List X):I->Option ((X×List Bx×FP)×Prop)
 |.store n a x=>match σ.ev a,σ.ev x with
  |some (.ptr i e o),some y=>match σ.bx[i]? with
   |some (.row sz es)=>if y.ok1&&y.cells.length==n&&(bZ y.cells).isEmpty then
     match splice cs o y.cells with
     |some cs'=>some ((iY,σ.bx.set i (.row sz (es.set e cs')),⟨true,[],[i]⟩),es[e]?=some cs)
     |none=>none
    else none
   |_=>none
  |_,_=>none
 |_=>none
theorem WO (h:zrT σ cs i=some (q,p))(hp:p):aG Γ σ i=some q:=by
 unfold zrT at h;split at h
 ·split at h
  ·rename_i ha hx;split at h
   ·rename_i hb;split at h;next hc=>split at h<;>simp_all[aG,kD,jX]
    grind
   grind
  grind
 grind
def zr0 (σ:St)(y:X):I->Option ((X×List Bx×FP)×Prop)
 |.zf1 kk ok zero m k=>match σ.ev m,σ.ev k with
  |some (.mp i),some (.v kv)=>match σ.bx[i]? with
   |some (.map es)=>if sZ kk kv then some ((y,σ.bx,⟨false,[i],[]⟩),qo ok zero kv es=some y) else none
   |_=>none
  |_,_=>none
 |_=>none
theorem WX (h:zr0 σ y i=some (q,p))(hp:p):aG Γ σ i=some q:=by
 unfold zr0 at h;split at h
 ·split at h;next hm hk=>split at h<;>simp_all[aG]
  grind
 grind
def zk4 (σ:St)(es':List (Value×X)):I->Option ((X×List Bx×FP)×Prop)
 |.zfZ kk m k v=>match σ.ev m,σ.ev k,σ.ev v with
  |some (.mp i),some (.v kv),some x=>match σ.bx[i]? with
   |some (.map es)=>if sZ kk kv&&x.ok1&&oh x then some ((iY,σ.bx.set i (.map es'),⟨true,[],[i]⟩),Cb kv x es=some es') else none
   |_=>none
  |_,_,_=>none
 |_=>none
theorem QY {es':List (Value×X)}(h:zk4 σ es' i=some (q,p))(hp:p):aG Γ σ i=some q:=by
 unfold zk4 at h;split at h
 ·split at h;next hm hk hv=>split at h<;>simp_all[aG]
  grind
 grind
def zk5 (Γ:Gam)(σ:St)(i:I):Ans->Option ((X×List Bx×FP)×Prop)
 |.b t'=>match aG Γ σ i with
  |some (.v (.bool t),bx,fp)=>some ((.v (.bool t'),bx,fp),t=t')
  |_=>none
 |.i n'=>match aG Γ σ i with
  |some (.v (.int k n),bx,fp)=>some ((.v (.int k n'),bx,fp),n=n')
  |_=>none
 |.x y'=>match aG Γ σ i with
  |some (y,bx,fp)=>some ((y',bx,fp),y=y')
  |none=>none
 |.c y bx fp=>match i with
  |.call own ref raw f args=>match σ.ev f,evs σ args with
   |some f,some as=>some ((y,bx,fp),uI Γ own ref raw f as σ.bx=some (y,bx,fp))
   |_,_=>none
  |_=>none
 |.e l=>match i with
  |.yg none sz z j=>match σ.ev z,(σ.ev j).bind Ju with
   |some (.sl _ s es),some n=>if s==sz then some ((.dp l,σ.bx,⟨false,[],[]⟩),es[n]?=some l) else none
   |_,_=>none
  |_=>none
 |.p y=>zrW Γ σ y i
 |.d as y=>zr2 Γ σ as y i
 |.app=>zr4 σ i
 |.fresh=>zr1 σ i
 |.mk=>zrY σ i
 |.o y out=>zrX Γ σ y out i
 |.r y out=>zrV Γ σ y out i
 |.cut=>zr3 σ i
 |.ztG=>zrS σ i
 |.at=>zrU σ i
 |.ld cs=>zrZ σ cs i
 |.st cs=>zrT σ cs i
 |.g y=>zr0 σ y i
 |.pm es=>zk4 σ es i
theorem aY {x:X}(h:Γ (.fn g) as []=some (x,bx))(hd:x.data bx false=some y):Γ.aF g as=some y:=by grind[Gam.aF]
theorem WW {a:Ans}(h:zk5 Γ σ i a=some (q,p))(hp:p):aG Γ σ i=some q:=by
 cases a with
 |p y=>exact WS h hp
 |d as y=>exact WZ h hp
 |app=>exact Xa h hp
 |fresh=>exact WY h hp
 |mk=>exact WU h hp
 |o y out=>exact WT h hp
 |r y out=>exact WR h hp
 |cut=>exact W9 h hp
 |ztG=>exact WM h hp
 |«at»=>exact WQ h hp
 |ld cs=>exact WV h hp
 |st cs=>exact WO h hp
 |g y=>exact WX h hp
 |pm es=>exact QY h hp
 |b t'=>
  simp only [zk5] at h
  grind
 |i n'=>
  simp only [zk5] at h
  grind
 |x y'=>
  simp only [zk5] at h
  grind
 |c y bx fp=>
  simp only [zk5] at h;split at h;·split at h<;>simp_all[aG]
  grind
 |e l=>
  simp only [zk5] at h;split at h;·split at h<;>simp_all[aG]
  grind
def zn7:List (Nat×Ans)->Option Nat->Option Ans
 |_,none=>none
 |[],some _=>none
 |(k,a)::r,some d=>if k==d then some a else zn7 r (some d)
def zn8 (i:Ins):Option Nat:=match i.dst with
 |some d=>some d
 |none=>match i.op with
  |.store _ (.t a) _=>some (a+1000000)
  |.zfZ _ (.t a) _ _=>some (a+1000000)
  |_=>none
def goA (Γ:Gam)(ans:List (Nat×Ans))(i:Ins)(σ:St):Option (St×FP×List Prop):=
 match zn7 ans (zn8 i) with
 |none=>match qC Γ i σ with
  |none=>none
  |some (σ',fp)=>some (σ',fp,[])
 |some a=>match zk5 Γ σ i.op a with
  |none=>none
  |some ((y,bx,fp),p)=>some (⟨yT i.dst y σ.tm,bx⟩,fp,[p])
def kQ:List Prop->Prop
 |[]=>True
 |p::r=>p/\kQ r
theorem fP:∀{l m:List Prop},kQ (l++m)↔kQ l/\kQ m
 |[],m=>by simp [kQ]
 |p::r,m=>by simp [kQ,fP (l:=r),and_assoc]
theorem MV {i:Ins}(h:goA Γ ans i σ=some (σ',fp,ps))(hp:kQ ps):qC Γ i σ=some (σ',fp):=by
 unfold goA at h;split at h
 ·grind
 split at h
 ·grind
 rename_i hs;cases h;simp only [qC,WW hs hp.1]
def zg5 (Γ:Gam)(ans:List (Nat×Ans))(i:Ins)(σ:St):Option (St×FP×List Prop):=
 match i.g with
 |none=>goA Γ ans i σ
 |some (s,want)=>match lk σ.tm s with
  |some (.v (.bool b))=>if b==want then goA Γ ans i σ else some (⟨yT i.dst iY σ.tm,σ.bx⟩,⟨false,[],[]⟩,[])
  |some (.v (.tuple _))=>some (⟨yT i.dst iY σ.tm,σ.bx⟩,⟨false,[],[]⟩,[])
  |_=>none
theorem Om {i:Ins}(h:zg5 Γ ans i σ=some (σ',fp,ps))(hp:kQ ps):step Γ i σ=some (σ',fp):=by
 unfold zg5 at h;unfold step;split at h
 ·grind[MV]
 rename_i s want hg;rw [hg];dsimp only;split at h
 ·rename_i b hb;rw [hb];dsimp only;by_cases hw:(b==want)=true;·rw [if_pos hw] at h ⊢;grind[MV]
  rw [if_neg hw] at h ⊢;cases h;rfl
 next t hb=>rw [hb];cases h;rfl
 grind
def KY (Γ:Gam)(ans:List (Nat×Ans)):List Ins->St->Option (St×List FP×List Prop)
 |[],σ=>some (σ,[],[])
 |i::r,σ=>match zg5 Γ ans i σ with
  |none=>none
  |some (σ',fp,ps)=>match KY Γ ans r σ' with
   |none=>none
   |some (Xe,fps,qs)=>some (Xe,fp::fps,ps++qs)
theorem yS {Γ:Gam}{ans:List (Nat×Ans)}:∀{l:List Ins} {σ σ':St} {fps:List FP} {ps:List Prop},KY Γ ans l σ=some (σ',fps,ps)->kQ ps->steps Γ l σ=some (σ',fps)
 |[],σ,σ',fps,ps,h,_=>by simp only [KY,qag,qaJ] at h;obtain ⟨rfl,rfl,_⟩:=h;rfl
 |i::r,σ,σ',fps,ps,h,hp=>by
  simp only [KY] at h;split at h
  ·grind
  rename_i σ1 fp ps1 h1;split at h
  ·grind
  rename_i σ2 zx9 qs h2;cases h;obtain ⟨hp1,hp2⟩:=fP.1 hp;simp only [steps,Om h1 hp1,yS h2 hp2,qao]
mutual
def X.ends (i:Nat):X->List Nat
 |.bs j off len=>if j==i then [off+len] else []
 |.agg cs=>EN i cs
 |.tup cs=>EN i cs
 |.fn _ cs=>EN i cs
 |_=>[]
def EN (i:Nat):List X->List Nat
 |[]=>[]
 |x::r=>x.ends i++EN i r
end
def Bx.ends (i:Nat):Bx->List Nat
 |.var cs=>EN i cs
 |.loop _ _ tm _ _ _=>EN i (tm.map (·.2))
 |_=>[]
def NP (i:Nat):List Bx->List Nat
 |[]=>[]
 |b::r=>b.ends i++NP i r
mutual
theorem Oa {i n:Nat}:∀(x:X),(∀e,e∈x.ends i->e<=n)->x.within i n=true
 |.bs j off len,h=>by simp only [X.within,Bool.or_eq_true,Bool.not_eq_true',qaF];cases hj:(j==i)<;>simp_all[X.ends]
 |.agg cs,h=>by simp only [X.within];exact gU cs (by grind[X.ends])
 |.tup cs,h=>by simp only [X.within];exact gU cs (by grind[X.ends])
 |.fn _ cs,h=>by simp only [X.within];exact gU cs (by grind[X.ends])
 |.ptr ..,_=>rfl
 |.yl _,_=>rfl
 |.mp _,_=>rfl
 |.ifc,_=>rfl
 |.v _,_=>rfl
 |.sl ..,_=>rfl
 |.dp _,_=>rfl
theorem gU {i n:Nat}:∀(cs:List X),(∀e,e∈EN i cs->e<=n)->iI i n cs=true
 |[],_=>rfl
 |x::r,h=>by simp only [iI,qab];exact ⟨Oa x fun e he=>h e (by grind[EN]),gU r fun e he=>h e (by grind[EN])⟩
end
theorem zbs {i n:Nat}:∀(bx:List Bx),(∀e,e∈NP i bx->e<=n)->bx.all (Bx.within i n)=true
 |[],_=>rfl
 |b::r,h=>by
  simp only [List.all_cons,qab];refine ⟨?_,zbs r fun e he=>h e (by grind[NP])⟩;have hb:∀e,e∈b.ends i->e<=n:=fun e he=>h e (by grind[NP]);cases b with
  |var cs=>exact gU cs hb
  |loop st p tm ps a c=>exact gU _ hb
  |row=>rfl
  |map=>rfl
  |dead=>rfl
def zik (n:Nat):List Nat->List Prop
 |[]=>[]
 |e::r=>(e<=n)::zik n r
theorem MJ {n:Nat}:∀{l:List Nat},kQ (zik n l)->∀e,e∈l->e<=n
 |[],_,e,he=>by grind
 |a::r,h,e,he=>by
  rcases qaj.1 he with rfl|he;·exact h.1
  exact MJ h.2 e he
def Qv (i:Nat)(σ:St):Option (St×List Prop):=
 match σ.bx[i]? with
 |some (.row sz es)=>some (⟨zlS i sz es σ.tm,(σ.bx.map (Bx.frz i sz es)).set i .dead⟩,zik es.length (EN i (σ.tm.map (·.2))++NP i σ.bx))
 |_=>none
theorem JF {i:Nat}(h:Qv i σ=some (σ',ps))(hp:kQ ps):freeze i σ=some σ':=by
 unfold Qv at h;unfold freeze;split at h;next sz es hb=>cases h;have h1:=MJ hp<;>simp_all[RJ,gU,zbs]
 grind
def pV:List Nat->St->Option (St×List Prop)
 |[],σ=>some (σ,[])
 |i::r,σ=>match σ.bx[i]? with
  |some (.row _ _)=>match Qv i σ with
   |some (σ',ps)=>match pV r σ' with
    |some (Xe,qs)=>some (Xe,ps++qs)
    |none=>none
   |none=>none
  |_=>pV r σ
theorem jM:∀{l:List Nat} {σ σ':St} {ps:List Prop},pV l σ=some (σ',ps)->kQ ps->freezes l σ=some σ'
 |[],σ,σ',ps,h,_=>by simp only [pV,qag,qaJ] at h;obtain ⟨rfl,_⟩:=h;rfl
 |i::r,σ,σ',ps,h,hp=>by
  simp only [pV] at h;simp only [freezes];split at h
  ·rename_i hb;split at h
   ·rename_i σ1 ps1 h1;split at h;next σ2 qs h2=>cases h;obtain ⟨p1,p2⟩:=fP.1 hp;simp only [hb,JF h1 p1,Option.bind_some];exact jM h2 p2
    grind
   grind
  rename_i hb;split
  ·grind
  exact jM h hp
def Gy (σ:St):Gh->Option (St×List Prop)
 |.zaK s=>match lk σ.tm s with
  |some (.ptr i _ _)=>match σ.bx[i]? with
   |some (.var cs)=>pV (iQ cs) σ
   |_=>some (σ,[])
  |some x=>pV x.rows σ
  |none=>some (σ,[])
 |g=>match ghost σ g with
  |some σ'=>some (σ',[])
  |none=>none
theorem MW {g:Gh}(h:Gy σ g=some (σ',ps))(hp:kQ ps):ghost σ g=some σ':=by
 cases g with
 |zaK s=>
  simp only [Gy] at h;simp only [ghost];split at h
  ·rename_i i e o hs;rw [hs];dsimp only;split at h
   ·grind[jM]
   grind
  ·rename_i x hx hs;rw [hs];cases x with
   |ptr i e o=>grind
   |_=>grind[jM]
  grind
 |thaw s o=>
  simp only [Gy] at h
  grind
 |frz s o=>
  simp only [Gy] at h
  grind
 |EJ s=>
  simp only [Gy] at h
  grind
def Dj:List Gh->St->Option (St×List Prop)
 |[],σ=>some (σ,[])
 |g::r,σ=>match Gy σ g with
  |none=>none
  |some (σ',ps)=>match Dj r σ' with
   |none=>none
   |some (Xe,qs)=>some (Xe,ps++qs)
theorem wK:∀{l:List Gh} {σ σ':St} {ps:List Prop},Dj l σ=some (σ',ps)->kQ ps->wL l σ=some σ'
 |[],σ,σ',ps,h,_=>by simp only [Dj,qag,qaJ] at h;obtain ⟨rfl,_⟩:=h;rfl
 |g::r,σ,σ',ps,h,hp=>by
  simp only [Dj] at h;split at h
  ·grind
  rename_i σ1 ps1 h1;split at h
  ·grind
  rename_i σ2 qs h2;cases h;obtain ⟨p1,p2⟩:=fP.1 hp;simp only [wL,MW h1 p1,wK h2 p2]
def ZF (nIn:Nat)(f:St->List (Ex×St)->Option (Ex×St×List (Ex×St)×List Prop)):Nat->St->List (Ex×St)->Option (Ex×St×List (Ex×St)×List Prop)
 |0,_,_=>none
 |n+1,σ,lo=>match canon nIn σ with
  |none=>none
  |some σ=>match f σ lo with
   |some (.norm,σ',lo',ps)=>match ZF nIn f n σ' lo' with
    |some (e,Xe,zuY,qs)=>some (e,Xe,zuY,ps++qs)
    |none=>none
   |r=>r
theorem CU {nIn:Nat}{f:St->List (Ex×St)->Option (Ex×St×List (Ex×St)×List Prop)}{g:St->Option (Ex×St)}(hf:∀(σ σ':St) (lo lo':List (Ex×St)) (e:Ex) (ps:List Prop),f σ lo=some (e,σ',lo',ps)->kQ ps->g σ=some (e,σ')):
  ∀{n:Nat} {σ σ':St} {lo lo':List (Ex×St)} {e:Ex} {ps:List Prop},ZF nIn f n σ lo=some (e,σ',lo',ps)->kQ ps->iter nIn g n σ=some (e,σ')
 |0,σ,σ',lo,lo',e,ps,h,_=>by grind[ZF]
 |n+1,σ,σ',lo,lo',e,ps,h,hp=>by
  simp only [ZF] at h;simp only [iter];split at h
  ·grind
  rename_i σ1 hc;rw [hc];dsimp only;split at h
  ·rename_i σ2 lo2 ps1 h1;split at h;next e3 σ3 lo3 qs h2=>cases h;obtain ⟨hp1,hp2⟩:=fP.1 hp;rw [hf _ _ _ _ _ _ h1 hp1];exact CU hf h2 hp2
   grind
  rename_i hne;rw [hf _ _ _ _ _ _ h hp];cases e<;>grind
def zF (Γ:Gam)(ans:List (Nat×Ans))(nIn fu:Nat):C->St->List (Ex×St)->Option (Ex×St×List (Ex×St)×List Prop)
 |.skip,σ,lo=>some (.norm,σ,lo,[])
 |.reg gh draw l live,σ,lo=>match Dj gh σ with
  |none=>none
  |some (σ,qs)=>match KY Γ ans l σ with
   |none=>none
   |some (σ',fps,ps)=>if BL l fps draw then some (.norm,⟨keep live σ'.tm,σ'.bx⟩,lo,qs++ps) else none
 |.seq a b,σ,lo=>match zF Γ ans nIn fu a σ lo with
  |some (.norm,σ',lo,ps)=>match zF Γ ans nIn fu b σ' lo with
   |some (e,Xe,lo,qs)=>some (e,Xe,lo,ps++qs)
   |none=>none
  |r=>r
 |.cond c a b,σ,lo=>match σ.ev c with
  |some (.v (.bool t))=>if t then zF Γ ans nIn fu a σ lo else zF Γ ans nIn fu b σ lo
  |_=>none
 |.block id b,σ,lo=>match zF Γ ans nIn fu b σ lo with
  |some (.exit j,σ',lo,ps)=>if j==id then some (.norm,σ',lo,ps) else some (.exit j,σ',lo,ps)
  |r=>r
 |.loop b,σ,o::lo=>some (o.1,o.2,lo,[run Γ nIn fu (.loop b) σ=some o])
 |.loop b,σ,[]=>ZF nIn (fun σ lo=>zF Γ ans nIn fu b σ lo) fu σ []
 |.rf f ps live as b,σ,o::lo=>some (o.1,o.2,lo,[run Γ nIn fu (.rf f ps live as b) σ=some o])
 |.rf f ps live as b,σ,[]=>match run Γ nIn fu (.rf f ps live as b) σ with
  |some (e,σ')=>some (e,σ',[],[])
  |none=>none
 |.exit id,σ,lo=>some (.exit id,σ,lo,[])
 |.ret,σ,lo=>some (.ret,σ,lo,[])
 |.stuck,_,_=>none
theorem iw :∀{m:C} {σ σ':St} {lo lo':List (Ex×St)} {e:Ex} {ps:List Prop},zF Γ ans nIn fu m σ lo=some (e,σ',lo',ps)->kQ ps->run Γ nIn fu m σ=some (e,σ'):=by
 intro m;induction m with
 |skip=>intro σ σ' lo lo' e ps h _;simp only [zF,qag,qaJ] at h;obtain ⟨rfl,rfl,_⟩:=h;rfl
 |exit id=>intro σ σ' lo lo' e ps h _;simp only [zF,qag,qaJ] at h;obtain ⟨rfl,rfl,_⟩:=h;rfl
 |ret=>intro σ σ' lo lo' e ps h _;simp only [zF,qag,qaJ] at h;obtain ⟨rfl,rfl,_⟩:=h;rfl
 |stuck=>grind[zF]
 |reg gh draw l live=>
  intro σ σ' lo lo' e ps h hp;simp only [zF] at h;split at h
  ·grind
  rename_i σ1 gps hg;split at h
  ·grind
  rename_i σ2 fps qs hs;split at h;next hpo=>cases h;obtain ⟨p1,p2⟩:=fP.1 hp;simp only [run,wK hg p1,yS hs p2,hpo,if_true]
  grind
 |seq a b iha ihb=>
  intro σ σ' lo lo' e ps h hp;simp only [zF] at h;split at h
  ·rename_i σ1 lo1 ps1 h1;split at h
   ·rename_i e2 σ2 lo2 qs h2;cases h
    grind[fP,run]
   grind
  rename_i hne;have h1:=iha h hp;simp only [run,h1];cases e<;>grind
 |cond c a b iha ihb=>
  intro σ σ' lo lo' e ps h hp;simp only [zF] at h;split at h
  ·rename_i t ht;cases t with
   |true=>simp only [if_true] at h;simp only [run,ht,if_true];grind
   |false=>simp only [qaQ,if_false] at h;simp only [run,ht,qaQ,if_false];grind
  grind
 |block id b ih=>
  intro σ σ' lo lo' e ps h hp;simp only [zF] at h;split at h
  ·rename_i j σ1 lo1 ps1 h1;by_cases hj:(j==id)=true;·rw [if_pos hj] at h;cases h;simp only [run,ih h1 hp,if_pos hj]
   rw [if_neg hj] at h;cases h;simp only [run,ih h1 hp,if_neg hj]
  rename_i hne;have h1:=ih h hp;simp only [run,h1];cases e<;>grind
 |loop b ih=>
  intro σ σ' lo lo' e ps h hp;cases lo with
  |nil=>grind[zF,run,CU]
  |cons o lo=>simp only [zF,qag,qaJ] at h;obtain ⟨rfl,rfl,_,rfl⟩:=h;exact hp.1
 |rf f qs live as b _ _=>
  intro σ σ' lo lo' e ps h hp;cases lo with
  |nil=>
   simp only [zF] at h
   grind
  |cons o lo=>simp only [zF,qag,qaJ] at h;obtain ⟨rfl,rfl,_,rfl⟩:=h;exact hp.1
def LP (Γ:Gam)(fu:Nat)(ans:List (Nat×Ans))(args:List X)(inb:List Bx):Option (Option (X×List Bx)×List Prop):=
 match args with
 |.yl i::as=>match inb[i]? with
  |some (.loop .ready none tm ps assign body)=>
   match KA ps as tm with
   |none=>none
   |some tm=>match zF Γ ans inb.length fu assign ⟨tm,inb⟩ [] with
    |some (.norm,σ,_,ps1)=>match zbx σ.bx i with
     |none=>none
     |some bx=>match zF Γ ans inb.length fu body ⟨σ.tm,bx⟩ [] with
      |none=>none
      |some (.norm,σ,_,ps2)=>some ((jy σ.bx i .busy .ready none).bind fun bx=>pack inb.length (.v (.bool true)) bx,ps1++ps2)
      |some (e,σ,_,ps2)=>some ((jy σ.bx i .busy .done (some e)).bind fun bx=>pack inb.length (.v (.bool false)) bx,ps1++ps2)
    |_=>none
  |_=>none
 |_=>none
theorem LM (h:LP Γ fu ans args inb=some (r,ps))(hp:kQ ps):zlB Γ fu args inb=r:=by
 unfold LP at h;split at h
 ·rename_i i as;split at h
  ·rename_i tm qs assign body hb;split at h
   ·grind
   rename_i tm' hz;split at h
   ·rename_i σ1 lo1 ps1 h1;split at h
    ·grind
    rename_i bx zo4;split at h
    ·grind
    next σ2 lo2 ps2 h2=>cases h;obtain ⟨p1,p2⟩:=fP.1 hp;simp only [zlB,hb,hz,iw h1 p1,zo4,iw h2 p2]
    rename_i h2;cases h;obtain ⟨p1,p2⟩:=fP.1 hp;simp only [zlB,hb,hz,iw h1 p1,zo4,iw h2 p2]
   grind
  grind
 grind
theorem yP (h:LP (ah T ext n) n ans args inb=some (r,ps))(hp:kQ ps):
  ah T ext (n+1) .yl args inb=r:=by
 grind[ah,LM]
def zru (Γ:Gam)(fu:Nat)(ans:List (Nat×Ans))(lo:List (Ex×St))(fd:Fun)(args:List X)(inb:List Bx):Option (Option (X×List Bx)×List Prop):=
 if args.length==fd.np then
  match zF Γ ans inb.length fu fd.body ⟨Hu 0 args,inb⟩ lo with
  |some (.norm,σ,_,ps)|some (.ret,σ,_,ps)=>some ((Xg σ fd.res).bind fun xs=>pack inb.length (qR xs) σ.bx,ps)
  |_=>none
 else none
theorem V4 {fd:Fun}(h:zru Γ fu ans lo fd args inb=some (r,ps))(hp:kQ ps):zlC Γ fu fd args inb=r:=by
 unfold zru at h;unfold zlC;split at h
 ·rename_i hl;rw [if_pos hl];split at h;next hr=>cases h;rw [iw hr hp]
  next hr=>cases h;rw [iw hr hp]
  grind
 grind
def NM (T:FuncId->Option Fun)(ext:Ext)(n:Nat)(ans:List (Nat×Ans))(lo:List (Ex×St))(f:FuncId)(args:List X)(inb:List Bx):Option (Option (X×List Bx)×List Prop):=
 match ext f with
 |some _=>none
 |none=>match T f with
  |some fd=>zru (ah T ext n) n ans lo fd args inb
  |none=>none
theorem pX {f:FuncId}(h:NM T ext n ans lo f args inb=some (r,ps))(hp:kQ ps):
  ah T ext (n+1) (.fn f) args inb=r:=by
 grind[NM,ah,V4]
theorem dV {r:Option (Ex×St)}(hc:canon nIn τ=some σ)(hf:f σ=some (.norm,τ'))(hr:iter nIn f n τ'=r):iter nIn f (n+1) τ=r:=by grind[iter]
theorem bK {e:Ex}(hc:canon nIn τ=some σ)(hf:f σ=some (e,τ'))(he:e≠.norm):iter nIn f (n+1) τ=some (e,τ'):=by simp_all[iter]
def G8 (T:FuncId->Option Fun)(f:FuncId):C:=match T f with
 |some fd=>fd.body
 |none=>.skip
end Go.Em
