/-.-/
import Derived.Test.YtpcjeobkehmhpaaGreatDoorEmV0
import Derived.Test.YtpcjeobkehmhpaaGreatDoorEmV5
set_option linter.all false
namespace Go.Em
variable {ext:Ext}{fp:FP}{g:FuncId}{T:FuncId->Option Fun}{Γ:Gam}{i:I}{lo:List (Ex×St)}{bx inb out outb:List Bx}{ps:List Prop}{args as cs:List X}{fu n nIn:Nat}{r:Option (X×List Bx)}{p:Prop}{σ σ' τ τ':St}{f:St->Option (Ex×St)}{y:X}{q:X×List Bx×FP}
inductive Ans where
 |b (t:Bool)
 |i (n:Int)
 |x (y:X)
 |c (y:X) (bx:List Bx) (fp:FP)
 |e (l:List X)
 |p (y:X)
 |app
 |fresh
 |mk
 |o (y:X) (out:List Bx)
 |r (y:X) (out:List Bx)
 |d (as:List X) (y:X)
 |cut
 |zuA
 |at
 |ld (cs:List X)
 |st (cs:List X)
 |g (y:X)
 |pm (es:List (Value×X))
variable {ans:List (Nat×Ans)}
def zsP (Γ:Gam)(σ:St)(y:X):I->Option ((X×List Bx×FP)×Prop)
 |.call own ref raw f args=>match σ.ev f,evs σ args with
  |some (.fn g caps),some zs=>match eG σ.bx raw zs with
   |some as=>if !ref&&(!own&&!ref&&(cO (as++caps)).isEmpty)&&(ou y&&((iW zs).isEmpty||y.plain)) then some ((y,σ.bx,⟨false,iW zs,[]⟩),Γ.aC g (as++caps)=some y) else none
   |none=>none
  |_,_=>none
 |_=>none
theorem W9 (h:zsP Γ σ y i=some (q,p))(hp:p):aG Γ σ i=some q:=by
 unfold zsP at h;split at h
 ·rename_i own m l f j;split at h;next g a u n A=>split at h<;>simp_all[aG,uP]
  grind
 grind
def zsW (Γ:Gam)(σ:St)(as:List X)(y:X):I->Option ((X×List Bx×FP)×Prop)
 |.call own ref raw f args=>match σ.ev f,evs σ args with
  |some (.fn g caps),some zs=>if !ref&&(!own&&!ref&&(cO (as++caps)).isEmpty)&&(ou y&&((iW zs).isEmpty||y.plain)) then some ((y,σ.bx,⟨false,iW zs,[]⟩),eG σ.bx raw zs=some as/\Γ.aC g (as++caps)=some y) else none
  |_,_=>none
 |_=>none
theorem Xg (h:zsW Γ σ as y i=some (q,p))(hp:p):aG Γ σ i=some q:=by
 unfold zsW at h;split at h;next own l j f a=>split at h<;>simp_all[aG,uP]
 grind
def zsY (σ:St):I->Option ((X×List Bx×FP)×Prop)
 |.app _ sz bytes s z=>match σ.ev s,σ.ev z with
  |some (.bs i off len),some y=>match σ.bx[i]?,pF σ.bx y with
   |some (.row sz0 es),some (sz',new)=>if sz'==sz&&sz0==sz then
     some ((.bs σ.bx.length 0 (len+new.length),σ.bx.set i .dead++[.row sz (es.drop off++new)],⟨true,y.rows,[i,σ.bx.length]⟩),off+len=es.length/\dh (len+new.length) bytes=true/\rF i y.rows=false) else none
   |_,_=>none
  |_,_=>none
 |_=>none
theorem Xi (h:zsY σ i=some (q,p))(hp:p):aG Γ σ i=some q:=by
 unfold zsY at h;split at h
 ·rename_i own j a s z;split at h;next i f len y l hz=>split at h<;>simp_all[aG]
  grind
 grind
def zsV (σ:St):I->Option ((X×List Bx×FP)×Prop)
 |.app own sz bytes s z=>match σ.ev s,σ.ev z with
  |some (.sl true sz0 es),some y=>match pF σ.bx y with
   |some (sz',new)=>if sz'==sz&&sz0==sz then
     (if own then some ((.bs σ.bx.length 0 (es.length+new.length),σ.bx++[.row sz (es++new)],⟨true,y.rows,[σ.bx.length]⟩),new.isEmpty=false/\dh (es.length+new.length) bytes=true)
      else some ((.sl false sz (es++new),σ.bx,⟨false,y.rows,[]⟩),dh (es.length+new.length) bytes=true)) else none
   |_=>none
  |_,_=>none
 |_=>none
theorem Xf (h:zsV σ i=some (q,p))(hp:p):aG Γ σ i=some q:=by
 unfold zsV at h;split at h
 ·rename_i own A a s z;split at h
  ·rename_i l u y B hz;split at h
   ·rename_i j n f;split at h;next m=>simp only [qab] at m;split at h<;>simp_all[aG]
    grind
   grind
  grind
 grind
def zsR (σ:St):I->Option ((X×List Bx×FP)×Prop)
 |.zgq bytes zero len cap=>match (σ.ev len).bind Xr,(σ.ev cap).bind Xr with
  |some n,some c=>some ((.bs σ.bx.length 0 n,σ.bx++[.row zero.length (List.replicate n zero)],⟨true,[],[σ.bx.length]⟩),n<=c/\dh c bytes=true)
  |_,_=>none
 |_=>none
theorem Xb (h:zsR σ i=some (q,p))(hp:p):aG Γ σ i=some q:=by
 unfold zsR at h;split at h;·split at h<;>simp_all[aG]
 grind
mutual
theorem IQ (f:Nat->Nat):∀(x:X),x.refs=[]->x.ren f=x
 |.bs ..,h=>by grind[X.refs]
 |.ptr ..,h=>by grind[X.refs]
 |.yl ..,h=>by grind[X.refs]
 |.mp ..,h=>by grind[X.refs]
 |.ifc,_=>rfl
 |.fn g cs,h=>by simp only [X.ren,nY f cs (by grind[X.refs])]
 |.agg cs,h=>by simp only [X.ren,nY f cs (by grind[X.refs])]
 |.tup cs,h=>by simp only [X.ren,nY f cs (by grind[X.refs])]
 |.v _,_=>rfl
 |.sl ..,_=>rfl
 |.dp _,_=>rfl
theorem nY (f:Nat->Nat):∀(cs:List X),cO cs=[]->NZ f cs=cs
 |[],_=>rfl
 |x::r,h=>by simp only [cO,List.append_eq_nil_iff] at h;simp only [NZ,IQ f x h.1,nY f r h.2]
end
theorem QV {r:X}(h0:cO args=[])(h:Γ (.fn g) args []=some (r,outb)):
  jc Γ (.fn g) args bx=some (r.ren (fun j=>bx.length+j),bx++outb.map (Bx.ren fun j=>bx.length+j),[]):=by
 have f:reach bx iO (cO args) []=[]:=by rw [h0];rfl
 have a:Ew bx []=some []:=rfl<;>simp_all[jc,nY,Oj,kH]
def zsQ (Γ:Gam)(σ:St)(y:X)(out:List Bx):I->Option ((X×List Bx×FP)×Prop)
 |.call own ref raw f args=>match σ.ev f,evs σ args with
  |some (.fn g caps),some zs=>match eG σ.bx raw zs with
   |some as=>if own&&!ref&&(cO (as++caps)).isEmpty&&(iW zs).isEmpty then
     some ((y.ren (fun j=>σ.bx.length+j),σ.bx++out.map (Bx.ren fun j=>σ.bx.length+j),Et [] [] σ.bx.length (σ.bx++out.map (Bx.ren fun j=>σ.bx.length+j)).length),Γ (.fn g) (as++caps) []=some (y,out)) else none
   |none=>none
  |_,_=>none
 |_=>none
theorem Xa (h:zsQ Γ σ y out i=some (q,p))(hp:p):aG Γ σ i=some q:=by
 unfold zsQ at h;split at h
 ·rename_i own A u f l;split at h
  ·rename_i g j J F H;split at h
   ·rename_i as E;split at h;next a=>cases h;simp only [qab,Bool.not_eq_true'] at a;obtain ⟨⟨⟨m,n⟩,B⟩,L⟩:=a;subst n;subst m;have:=QV (bx:=σ.bx) (List.isEmpty_iff.1 B) hp<;>simp_all[aG,uP]
    grind
   grind
  grind
 grind
def sW (Γ:Gam)(fv:Fv)(args:List X)(bx:List Bx)(y:X)(outb:List Bx):Option ((X×List Bx×List Nat)×Prop):=
 let sel:=reach bx iO (cO args) []
 if Oj (cO args) sel then
  match Ew bx sel with
  |none=>none
  |some inb=>
   if sel.length<=outb.length then
    let back:=fun j=>if j<sel.length then sel.getD j 0 else bx.length+(j-sel.length)
    let outs:=outb.map (Bx.ren back)
    some ((y.ren back,kH sel outs bx++outs.drop sel.length,sel),Γ fv (NZ (uV · sel) args) inb=some (y,outb))
   else none
 else none
theorem jU {fv:Fv}{q:X×List Bx×List Nat}(h:sW Γ fv args bx y outb=some (q,p))(hp:p):jc Γ fv args bx=some q:=by
 unfold sW at h;unfold jc
 grind
def zsO (Γ:Gam)(σ:St)(y:X)(out:List Bx):I->Option ((X×List Bx×FP)×Prop)
 |.call own ref raw f args=>match σ.ev f,evs σ args with
  |some (.yl i),some zs=>match eG σ.bx raw zs with
   |some as=>if !ref&&(iW zs).isEmpty then
     match sW Γ .yl (.yl i::as) σ.bx y out with
     |some ((x,bx',sel),p)=>some ((x,bx',Et [] sel σ.bx.length bx'.length),p)
     |none=>none
    else none
   |none=>none
  |some (.fn g caps),some zs=>
   if ref then
    match sW Γ (.fn g) (zs++caps) σ.bx y out with
    |some ((x,bx',sel),p)=>some ((x,bx',Et [] sel σ.bx.length bx'.length),p)
    |none=>none
   else match eG σ.bx raw zs with
   |some as=>if !(!own&&(cO (as++caps)).isEmpty)&&(iW zs).isEmpty then
     match sW Γ (.fn g) (as++caps) σ.bx y out with
     |some ((x,bx',sel),p)=>some ((x,bx',Et [] sel σ.bx.length bx'.length),p)
     |none=>none
    else none
   |none=>none
  |_,_=>none
 |_=>none
theorem WZ (h:zsO Γ σ y out i=some (q,p))(hp:p):aG Γ σ i=some q:=by
 unfold zsO at h;split at h
 ·rename_i own L P f N;split at h
  ·rename_i j O B E;split at h
   ·rename_i as F;split at h
    ·rename_i l;simp only [qab,Bool.not_eq_true'] at l;obtain ⟨A,hz⟩:=l;subst A;split at h;next x m u M a=>cases h;simp only [aG,B,E,uP,qaP,if_false,F,hz,Bool.or_true,if_true,jU a hp]
     grind
    grind
   grind
  ·rename_i g n O B E;split at h
   ·rename_i A;subst A;split at h;next x m u M a=>cases h;simp only [aG,B,E,uP,if_true,Bool.not_true,Bool.and_false,Bool.false_and,qaP,if_false,Bool.true_or,jU a hp]
    grind
   rename_i A;have J:L=false:=by simpa using A
   subst J;split at h
   ·rename_i as F;split at h
    ·rename_i l;simp only [qab,Bool.not_eq_true'] at l;obtain ⟨Q,hz⟩:=l;split at h
     ·rename_i x m u M a;cases h;have H:(!own&&!false&&(cO (as++n)).isEmpty)=false:=by simpa using Q
      simp only [aG,B,E,uP,qaP,if_false,F,H,hz,Bool.or_true,if_true,jU a hp]
     grind
    grind
   grind
  grind
 grind
def zsX (σ:St):I->Option ((X×List Bx×FP)×Prop)
 |.slice sz x lo hi none=>match σ.ev x with
  |some (.sl t s es)=>match dR σ 0 lo,dR σ es.length hi with
   |some l,some h=>if s==sz then some ((.sl (t&&h==es.length) s ((es.take h).drop l),σ.bx,⟨false,[],[]⟩),l<=h/\h<=es.length) else none
   |_,_=>none
  |some (.bs i off len)=>match dR σ 0 lo,dR σ len hi with
   |some l,some h=>match σ.bx[i]? with
    |some (.row s _)=>if s==sz then some ((.bs i (off+l) (h-l),σ.bx,⟨false,[i],[]⟩),l<h/\h<=len) else none
    |_=>none
   |_,_=>none
  |_=>none
 |.tN x lo hi=>match σ.ev x with
  |some (.v (.string s))=>match dR σ 0 lo,dR σ s.size hi with
   |some l,some h=>some ((.v (.string (s.extract l h)),σ.bx,⟨false,[],[]⟩),l<=h/\h<=s.size)
   |_,_=>none
  |_=>none
 |_=>none
theorem Xh (h:zsX σ i=some (q,p))(hp:p):aG Γ σ i=some q:=by
 unfold zsX at h;split at h
 ·rename_i F x n j;split at h;next t s f a=>split at h<;>simp_all[aG]
  ·rename_i i u len a;split at h
   ·rename_i l E A m;split at h
    ·rename_i s f B;split at h
     ·rename_i y;cases h
      grind[aG]
     grind
    grind
   grind
  grind
 ·rename_i x n j;split at h;next s a=>split at h<;>simp_all[aG]
  grind
 grind
def zsL (σ:St):I->Option ((X×List Bx×FP)×Prop)
 |.slice sz x lo hi none=>match σ.ev x with
  |some (.bs _ _ len)=>match dR σ 0 lo,dR σ len hi with
   |some l,some h=>some ((.sl false sz [],σ.bx,⟨false,[],[]⟩),l=h/\h<=len)
   |_,_=>none
  |_=>none
 |_=>none
theorem WW (h:zsL σ i=some (q,p))(hp:p):aG Γ σ i=some q:=by
 unfold zsL at h;split at h
 ·split at h;next a=>split at h<;>simp_all[aG]
  grind
 grind
def zsN (σ:St):I->Option ((X×List Bx×FP)×Prop)
 |.yu none sz z j=>match σ.ev z,(σ.ev j).bind Jk with
  |some (.bs i off len),some n=>match σ.bx[i]? with
   |some (.row s _)=>if s==sz then some ((.ptr i (off+n) 0,σ.bx,⟨false,[i],[]⟩),n<len) else none
   |_=>none
  |_,_=>none
 |.yu (some len) sz z j=>match σ.ev z,(σ.ev j).bind Jk with
  |some (.ptr i e o),some n=>some ((.ptr i e (o+n*sz),σ.bx,⟨false,[],[]⟩),n<len)
  |some (.dp cs),some n=>some ((.dp (cs.drop (n*sz)),σ.bx,⟨false,[],[]⟩),n<len)
  |_,_=>none
 |.zge z j=>match σ.ev z,(σ.ev j).bind Jk with
  |some (.v (.string s)),some n=>some ((.v (.int .u8 ((s[n]?).getD 0).toNat),σ.bx,⟨false,[],[]⟩),n<s.size)
  |_,_=>none
 |.bin .add a b=>match σ.ev a,σ.ev b with
  |some (.v (.string s)),some (.v (.string t))=>some ((.v (.string (s++t)),σ.bx,⟨false,[],[]⟩),s.size+t.size<=9223372036854775807)
  |_,_=>none
 |_=>none
theorem WY (h:zsN σ i=some (q,p))(hp:p):aG Γ σ i=some q:=by
 unfold zsN at h;split at h
 ·split at h;next hz a=>split at h<;>simp_all[aG]
  grind
 ·split at h<;>simp_all[aG]
 ·split at h;next s n hz a=>simp only [qaf,qaI] at h;obtain ⟨rfl,rfl⟩:=h<;>simp_all[aG]
  grind
 ·split at h
  ·rename_i s t m l;cases h;have f:¬(((s.size+t.size:Nat):Int)>IntKind.i64.max):=by have:IntKind.i64.max=9223372036854775807:=rfl;omega
   have j:kP .add (.string s) (.string t)=some (.string (s++t)):=by show bW (Op.stringOp .add s t)=_;unfold Op.stringOp;dsimp only;rw [if_neg f];rfl
   grind[aG]
  grind
 grind
def zsS (σ:St)(cs:List X):I->Option ((X×List Bx×FP)×Prop)
 |.load m a=>match σ.ev a with
  |some (.ptr i e o)=>match σ.bx[i]? with
   |some (.row _ es)=>match (match m with
     |none=>(cs.drop o).head?
     |some m=>if ((cs.drop o).take m).length==m then some (.agg ((cs.drop o).take m)) else none) with
    |some x=>some ((x,σ.bx,⟨false,[i],[]⟩),es[e]?=some cs)
    |none=>none
   |_=>none
  |_=>none
 |_=>none
theorem Xc (h:zsS σ cs i=some (q,p))(hp:p):aG Γ σ i=some q:=by
 unfold zsS at h;split at h
 ·split at h
  ·rename_i f;split at h
   ·rename_i j;split at h
    ·rename_i x a;cases h;rename_i m _ _ _ _ _ _ _ _ _;simp only [aG,f,oC,ku,j,hp,qan];cases m with
     |none=>dsimp only at a ⊢;rw [a];rfl
     |some m=>dsimp only at a ⊢;rw [a];rfl
    grind
   grind
  grind
 grind
def zsM (σ:St)(cs:List X):I->Option ((X×List Bx×FP)×Prop)
 |.store n a x=>match σ.ev a,σ.ev x with
  |some (.ptr i e o),some y=>match σ.bx[i]? with
   |some (.row sz es)=>if y.ok1&&y.cells.length==n&&(cO y.cells).isEmpty then
     match splice cs o y.cells with
     |some cs'=>some ((jg,σ.bx.set i (.row sz (es.set e cs')),⟨true,[],[i]⟩),es[e]?=some cs)
     |none=>none
    else none
   |_=>none
  |_,_=>none
 |_=>none
theorem WX (h:zsM σ cs i=some (q,p))(hp:p):aG Γ σ i=some q:=by
 unfold zsM at h;split at h
 ·split at h
  ·rename_i l a;split at h
   ·rename_i f;split at h;next j=>split at h<;>simp_all[aG,kK,kE]
    grind
   grind
  grind
 grind
def zsU (σ:St)(y:X):I->Option ((X×List Bx×FP)×Prop)
 |.zgr kk ok zero m k=>match σ.ev m,σ.ev k with
  |some (.mp i),some (.v kv)=>match σ.bx[i]? with
   |some (.map es)=>if tK kk kv then some ((y,σ.bx,⟨false,[i],[]⟩),oz ok zero kv es=some y) else none
   |_=>none
  |_,_=>none
 |_=>none
theorem Xe (h:zsU σ y i=some (q,p))(hp:p):aG Γ σ i=some q:=by
 unfold zsU at h;split at h
 ·split at h;next f a=>split at h<;>simp_all[aG]
  grind
 grind
def zlB (σ:St)(es':List (Value×X)):I->Option ((X×List Bx×FP)×Prop)
 |.zgp kk m k v=>match σ.ev m,σ.ev k,σ.ev v with
  |some (.mp i),some (.v kv),some x=>match σ.bx[i]? with
   |some (.map es)=>if tK kk kv&&x.ok1&&ou x then some ((jg,σ.bx.set i (.map es'),⟨true,[],[i]⟩),CG kv x es=some es') else none
   |_=>none
  |_,_,_=>none
 |_=>none
theorem Q5 {es':List (Value×X)}(h:zlB σ es' i=some (q,p))(hp:p):aG Γ σ i=some q:=by
 unfold zlB at h;split at h
 ·split at h;next j f a=>split at h<;>simp_all[aG]
  grind
 grind
def zlC (Γ:Gam)(σ:St)(i:I):Ans->Option ((X×List Bx×FP)×Prop)
 |.b t'=>match aG Γ σ i with
  |some (.v (.bool t),bx,fp)=>some ((.v (.bool t'),bx,fp),t=t')
  |_=>none
 |.i n'=>match aG Γ σ i with
  |some (.v (.int k n),bx,fp)=>some ((.v (.int k n'),bx,fp),n=n')
  |_=>none
 |.x y'=>match aG Γ σ i with
  |some (y,bx,fp)=>some ((y',bx,fp),y=y')
  |none=>none
 |.c y bx fp=>match i with
  |.call own ref raw f args=>match σ.ev f,evs σ args with
   |some f,some as=>some ((y,bx,fp),uP Γ own ref raw f as σ.bx=some (y,bx,fp))
   |_,_=>none
  |_=>none
 |.e l=>match i with
  |.yu none sz z j=>match σ.ev z,(σ.ev j).bind Jk with
   |some (.sl _ s es),some n=>if s==sz then some ((.dp l,σ.bx,⟨false,[],[]⟩),es[n]?=some l) else none
   |_,_=>none
  |_=>none
 |.p y=>zsP Γ σ y i
 |.d as y=>zsW Γ σ as y i
 |.app=>zsY σ i
 |.fresh=>zsV σ i
 |.mk=>zsR σ i
 |.o y out=>zsQ Γ σ y out i
 |.r y out=>zsO Γ σ y out i
 |.cut=>zsX σ i
 |.zuA=>zsL σ i
 |.at=>zsN σ i
 |.ld cs=>zsS σ cs i
 |.st cs=>zsM σ cs i
 |.g y=>zsU σ y i
 |.pm es=>zlB σ es i
theorem aZ {x:X}(h:Γ (.fn g) as []=some (x,bx))(hd:x.data bx false=some y):Γ.aC g as=some y:=by grind[Gam.aC]
theorem Xd {a:Ans}(h:zlC Γ σ i a=some (q,p))(hp:p):aG Γ σ i=some q:=by
 cases a with
 |p y=>exact W9 h hp
 |d as y=>exact Xg h hp
 |app=>exact Xi h hp
 |fresh=>exact Xf h hp
 |mk=>exact Xb h hp
 |o y out=>exact Xa h hp
 |r y out=>exact WZ h hp
 |cut=>exact Xh h hp
 |zuA=>exact WW h hp
 |«at»=>exact WY h hp
 |ld cs=>exact Xc h hp
 |st cs=>exact WX h hp
 |g y=>exact Xe h hp
 |pm es=>exact Q5 h hp
 |b t'=>
  simp only [zlC] at h
  grind
 |i n'=>
  simp only [zlC] at h
  grind
 |x y'=>
  simp only [zlC] at h
  grind
 |c y bx fp=>
  simp only [zlC] at h;split at h;·split at h<;>simp_all[aG]
  grind
 |e l=>
  simp only [zlC] at h;split at h;·split at h<;>simp_all[aG]
  grind
def zoY:List (Nat×Ans)->Option Nat->Option Ans
 |_,none=>none
 |[],some _=>none
 |(k,a)::r,some d=>if k==d then some a else zoY r (some d)
def zoZ (i:Ins):Option Nat:=match i.dst with
 |some d=>some d
 |none=>match i.op with
  |.store _ (.t a) _=>some (a+1000000)
  |.zgp _ (.t a) _ _=>some (a+1000000)
  |_=>none
def goA (Γ:Gam)(ans:List (Nat×Ans))(i:Ins)(σ:St):Option (St×FP×List Prop):=
 match zoY ans (zoZ i) with
 |none=>match qI Γ i σ with
  |none=>none
  |some (σ',fp)=>some (σ',fp,[])
 |some a=>match zlC Γ σ i.op a with
  |none=>none
  |some ((y,bx,fp),p)=>some (⟨yY i.dst y σ.tm,bx⟩,fp,[p])
def kX:List Prop->Prop
 |[]=>True
 |p::r=>p/\kX r
theorem fZ:∀{l m:List Prop},kX (l++m)↔kX l/\kX m
 |[],m=>by simp [kX]
 |p::r,m=>by simp [kX,fZ (l:=r),and_assoc]
theorem MX {i:Ins}(h:goA Γ ans i σ=some (σ',fp,ps))(hp:kX ps):qI Γ i σ=some (σ',fp):=by
 unfold goA at h;split at h
 ·grind
 split at h
 ·grind
 rename_i a;cases h;simp only [qI,Xd a hp.1]
def zhy (Γ:Gam)(ans:List (Nat×Ans))(i:Ins)(σ:St):Option (St×FP×List Prop):=
 match i.g with
 |none=>goA Γ ans i σ
 |some (s,want)=>match lk σ.tm s with
  |some (.v (.bool b))=>if b==want then goA Γ ans i σ else some (⟨yY i.dst jg σ.tm,σ.bx⟩,⟨false,[],[]⟩,[])
  |some (.v (.tuple _))=>some (⟨yY i.dst jg σ.tm,σ.bx⟩,⟨false,[],[]⟩,[])
  |_=>none
theorem Oo {i:Ins}(h:zhy Γ ans i σ=some (σ',fp,ps))(hp:kX ps):step Γ i σ=some (σ',fp):=by
 unfold zhy at h;unfold step;split at h
 ·grind[MX]
 rename_i s a l;rw [l];dsimp only;split at h
 ·rename_i b f;rw [f];dsimp only;by_cases j:(b==a)=true;·rw [if_pos j] at h ⊢;grind[MX]
  rw [if_neg j] at h ⊢;cases h;rfl
 next t f=>rw [f];cases h;rfl
 grind
def KP (Γ:Gam)(ans:List (Nat×Ans)):List Ins->St->Option (St×List FP×List Prop)
 |[],σ=>some (σ,[],[])
 |i::r,σ=>match zhy Γ ans i σ with
  |none=>none
  |some (σ',fp,ps)=>match KP Γ ans r σ' with
   |none=>none
   |some (Xm,fps,qs)=>some (Xm,fp::fps,ps++qs)
theorem yU {Γ:Gam}{ans:List (Nat×Ans)}:∀{l:List Ins} {σ σ':St} {fps:List FP} {ps:List Prop},KP Γ ans l σ=some (σ',fps,ps)->kX ps->steps Γ l σ=some (σ',fps)
 |[],σ,σ',fps,ps,h,_=>by simp only [KP,qaf,qaI] at h;obtain ⟨rfl,rfl,_⟩:=h;rfl
 |i::r,σ,σ',fps,ps,h,hp=>by
  simp only [KP] at h;split at h
  ·grind
  rename_i σ1 fp ps1 h1;split at h
  ·grind
  rename_i σ2 zyW qs h2;cases h;obtain ⟨hp1,hp2⟩:=fZ.1 hp;simp only [steps,Oo h1 hp1,yU h2 hp2,qan]
mutual
def X.ends (i:Nat):X->List Nat
 |.bs j off len=>if j==i then [off+len] else []
 |.agg cs=>EO i cs
 |.tup cs=>EO i cs
 |.fn _ cs=>EO i cs
 |_=>[]
def EO (i:Nat):List X->List Nat
 |[]=>[]
 |x::r=>x.ends i++EO i r
end
def Bx.ends (i:Nat):Bx->List Nat
 |.var cs=>EO i cs
 |.loop _ _ tm _ _ _=>EO i (tm.map (·.2))
 |_=>[]
def NQ (i:Nat):List Bx->List Nat
 |[]=>[]
 |b::r=>b.ends i++NQ i r
mutual
theorem Oa {i n:Nat}:∀(x:X),(∀e,e∈x.ends i->e<=n)->x.within i n=true
 |.bs j off len,h=>by simp only [X.within,Bool.or_eq_true,Bool.not_eq_true',qaF];cases hj:(j==i)<;>simp_all[X.ends]
 |.agg cs,h=>by simp only [X.within];exact gX cs (by grind[X.ends])
 |.tup cs,h=>by simp only [X.within];exact gX cs (by grind[X.ends])
 |.fn _ cs,h=>by simp only [X.within];exact gX cs (by grind[X.ends])
 |.ptr ..,_=>rfl
 |.yl _,_=>rfl
 |.mp _,_=>rfl
 |.ifc,_=>rfl
 |.v _,_=>rfl
 |.sl ..,_=>rfl
 |.dp _,_=>rfl
theorem gX {i n:Nat}:∀(cs:List X),(∀e,e∈EO i cs->e<=n)->iJ i n cs=true
 |[],_=>rfl
 |x::r,h=>by simp only [iJ,qab];exact ⟨Oa x fun e he=>h e (by grind[EO]),gX r fun e he=>h e (by grind[EO])⟩
end
theorem zbJ {i n:Nat}:∀(bx:List Bx),(∀e,e∈NQ i bx->e<=n)->bx.all (Bx.within i n)=true
 |[],_=>rfl
 |b::r,h=>by
  simp only [List.all_cons,qab];refine ⟨?_,zbJ r fun e he=>h e (by grind[NQ])⟩;have hb:∀e,e∈b.ends i->e<=n:=fun e he=>h e (by grind[NQ]);cases b with
  |var cs=>exact gX cs hb
  |loop st p tm ps a c=>exact gX _ hb
  |row=>rfl
  |map=>rfl
  |dead=>rfl
def ziS (n:Nat):List Nat->List Prop
 |[]=>[]
 |e::r=>(e<=n)::ziS n r
theorem MG {n:Nat}:∀{l:List Nat},kX (ziS n l)->∀e,e∈l->e<=n
 |[],_,e,he=>by grind
 |a::r,h,e,he=>by
  rcases qak.1 he with rfl|he;·exact h.1
  exact MG h.2 e he
def Qx (i:Nat)(σ:St):Option (St×List Prop):=
 match σ.bx[i]? with
 |some (.row sz es)=>some (⟨zmp i sz es σ.tm,(σ.bx.map (Bx.frz i sz es)).set i .dead⟩,ziS es.length (EO i (σ.tm.map (·.2))++NQ i σ.bx))
 |_=>none
theorem Jy {i:Nat}(h:Qx i σ=some (σ',ps))(hp:kX ps):freeze i σ=some σ':=by
 unfold Qx at h;unfold freeze;split at h;next j l a=>cases h;have f:=MG hp<;>simp_all[RP,gX,zbJ]
 grind
def pY:List Nat->St->Option (St×List Prop)
 |[],σ=>some (σ,[])
 |i::r,σ=>match σ.bx[i]? with
  |some (.row _ _)=>match Qx i σ with
   |some (σ',ps)=>match pY r σ' with
    |some (Xm,qs)=>some (Xm,ps++qs)
    |none=>none
   |none=>none
  |_=>pY r σ
theorem jS:∀{l:List Nat} {σ σ':St} {ps:List Prop},pY l σ=some (σ',ps)->kX ps->freezes l σ=some σ'
 |[],σ,σ',ps,h,_=>by simp only [pY,qaf,qaI] at h;obtain ⟨rfl,_⟩:=h;rfl
 |i::r,σ,σ',ps,h,hp=>by
  simp only [pY] at h;simp only [freezes];split at h
  ·rename_i hb;split at h
   ·rename_i σ1 ps1 h1;split at h;next σ2 qs h2=>cases h;obtain ⟨p1,p2⟩:=fZ.1 hp;simp only [hb,Jy h1 p1,Option.bind_some];exact jS h2 p2
    grind
   grind
  rename_i hb;split
  ·grind
  exact jS h hp
def GV (σ:St):Gh->Option (St×List Prop)
 |.zaZ s=>match lk σ.tm s with
  |some (.ptr i _ _)=>match σ.bx[i]? with
   |some (.var cs)=>pY (iW cs) σ
   |_=>some (σ,[])
  |some x=>pY x.rows σ
  |none=>some (σ,[])
 |g=>match ghost σ g with
  |some σ'=>some (σ',[])
  |none=>none
theorem MZ {g:Gh}(h:GV σ g=some (σ',ps))(hp:kX ps):ghost σ g=some σ':=by
 cases g with
 |zaZ s=>
  simp only [GV] at h;simp only [ghost];split at h
  ·rename_i i e o a;rw [a];dsimp only;split at h
   ·grind[jS]
   grind
  ·rename_i x f a;rw [a];cases x with
   |ptr i e o=>grind
   |_=>grind[jS]
  grind
 |thaw s o=>
  simp only [GV] at h
  grind
 |frz s o=>
  simp only [GV] at h
  grind
 |EK s=>
  simp only [GV] at h
  grind
def Dp:List Gh->St->Option (St×List Prop)
 |[],σ=>some (σ,[])
 |g::r,σ=>match GV σ g with
  |none=>none
  |some (σ',ps)=>match Dp r σ' with
   |none=>none
   |some (Xm,qs)=>some (Xm,ps++qs)
theorem wP:∀{l:List Gh} {σ σ':St} {ps:List Prop},Dp l σ=some (σ',ps)->kX ps->wQ l σ=some σ'
 |[],σ,σ',ps,h,_=>by simp only [Dp,qaf,qaI] at h;obtain ⟨rfl,_⟩:=h;rfl
 |g::r,σ,σ',ps,h,hp=>by
  simp only [Dp] at h;split at h
  ·grind
  rename_i σ1 ps1 h1;split at h
  ·grind
  rename_i σ2 qs h2;cases h;obtain ⟨p1,p2⟩:=fZ.1 hp;simp only [wQ,MZ h1 p1,wP h2 p2]
def ZT (nIn:Nat)(f:St->List (Ex×St)->Option (Ex×St×List (Ex×St)×List Prop)):Nat->St->List (Ex×St)->Option (Ex×St×List (Ex×St)×List Prop)
 |0,_,_=>none
 |n+1,σ,lo=>match canon nIn σ with
  |none=>none
  |some σ=>match f σ lo with
   |some (.norm,σ',lo',ps)=>match ZT nIn f n σ' lo' with
    |some (e,Xm,zvM,qs)=>some (e,Xm,zvM,ps++qs)
    |none=>none
   |r=>r
theorem CY {nIn:Nat}{f:St->List (Ex×St)->Option (Ex×St×List (Ex×St)×List Prop)}{g:St->Option (Ex×St)}(hf:∀(σ σ':St) (lo lo':List (Ex×St)) (e:Ex) (ps:List Prop),f σ lo=some (e,σ',lo',ps)->kX ps->g σ=some (e,σ')):
  ∀{n:Nat} {σ σ':St} {lo lo':List (Ex×St)} {e:Ex} {ps:List Prop},ZT nIn f n σ lo=some (e,σ',lo',ps)->kX ps->iter nIn g n σ=some (e,σ')
 |0,σ,σ',lo,lo',e,ps,h,_=>by grind[ZT]
 |n+1,σ,σ',lo,lo',e,ps,h,hp=>by
  simp only [ZT] at h;simp only [iter];split at h
  ·grind
  rename_i σ1 hc;rw [hc];dsimp only;split at h
  ·rename_i σ2 lo2 ps1 h1;split at h;next e3 σ3 lo3 qs h2=>cases h;obtain ⟨hp1,hp2⟩:=fZ.1 hp;rw [hf _ _ _ _ _ _ h1 hp1];exact CY hf h2 hp2
   grind
  rename_i hne;rw [hf _ _ _ _ _ _ h hp];cases e<;>grind
def zK (Γ:Gam)(ans:List (Nat×Ans))(nIn fu:Nat):C->St->List (Ex×St)->Option (Ex×St×List (Ex×St)×List Prop)
 |.skip,σ,lo=>some (.norm,σ,lo,[])
 |.reg gh draw l live,σ,lo=>match Dp gh σ with
  |none=>none
  |some (σ,qs)=>match KP Γ ans l σ with
   |none=>none
   |some (σ',fps,ps)=>if BR l fps draw then some (.norm,⟨keep live σ'.tm,σ'.bx⟩,lo,qs++ps) else none
 |.seq a b,σ,lo=>match zK Γ ans nIn fu a σ lo with
  |some (.norm,σ',lo,ps)=>match zK Γ ans nIn fu b σ' lo with
   |some (e,Xm,lo,qs)=>some (e,Xm,lo,ps++qs)
   |none=>none
  |r=>r
 |.cond c a b,σ,lo=>match σ.ev c with
  |some (.v (.bool t))=>if t then zK Γ ans nIn fu a σ lo else zK Γ ans nIn fu b σ lo
  |_=>none
 |.block id b,σ,lo=>match zK Γ ans nIn fu b σ lo with
  |some (.exit j,σ',lo,ps)=>if j==id then some (.norm,σ',lo,ps) else some (.exit j,σ',lo,ps)
  |r=>r
 |.loop b,σ,o::lo=>some (o.1,o.2,lo,[run Γ nIn fu (.loop b) σ=some o])
 |.loop b,σ,[]=>ZT nIn (fun σ lo=>zK Γ ans nIn fu b σ lo) fu σ []
 |.rf f ps live as b,σ,o::lo=>some (o.1,o.2,lo,[run Γ nIn fu (.rf f ps live as b) σ=some o])
 |.rf f ps live as b,σ,[]=>match run Γ nIn fu (.rf f ps live as b) σ with
  |some (e,σ')=>some (e,σ',[],[])
  |none=>none
 |.exit id,σ,lo=>some (.exit id,σ,lo,[])
 |.ret,σ,lo=>some (.ret,σ,lo,[])
 |.stuck,_,_=>none
theorem iC :∀{m:C} {σ σ':St} {lo lo':List (Ex×St)} {e:Ex} {ps:List Prop},zK Γ ans nIn fu m σ lo=some (e,σ',lo',ps)->kX ps->run Γ nIn fu m σ=some (e,σ'):=by
 intro m;induction m with
 |skip=>intro σ σ' lo lo' e ps h _;simp only [zK,qaf,qaI] at h;obtain ⟨rfl,rfl,_⟩:=h;rfl
 |exit id=>intro σ σ' lo lo' e ps h _;simp only [zK,qaf,qaI] at h;obtain ⟨rfl,rfl,_⟩:=h;rfl
 |ret=>intro σ σ' lo lo' e ps h _;simp only [zK,qaf,qaI] at h;obtain ⟨rfl,rfl,_⟩:=h;rfl
 |stuck=>grind[zK]
 |reg gh draw l live=>
  intro σ σ' lo lo' e ps h n;simp only [zK] at h;split at h
  ·grind
  rename_i σ1 Q P;split at h
  ·grind
  rename_i σ2 J H L;split at h;next E=>cases h;obtain ⟨N,M⟩:=fZ.1 n;simp only [run,wP P N,yU L M,E,if_true]
  grind
 |seq a b iha ihb=>
  intro σ σ' lo lo' e ps h n;simp only [zK] at h;split at h
  ·rename_i σ1 A y q;split at h
   ·rename_i U σ2 O H S;cases h
    grind[fZ,run]
   grind
  rename_i B;have q:=iha h n;simp only [run,q];cases e<;>grind
 |cond c a b iha ihb=>
  intro σ σ' lo lo' e ps h n;simp only [zK] at h;split at h
  ·rename_i t F;cases t with
   |true=>simp only [if_true] at h;simp only [run,F,if_true];grind
   |false=>simp only [qaP,if_false] at h;simp only [run,F,qaP,if_false];grind
  grind
 |block id b ih=>
  intro σ σ' lo lo' e ps h n;simp only [zK] at h;split at h
  ·rename_i j σ1 A y q;by_cases u:(j==id)=true;·rw [if_pos u] at h;cases h;simp only [run,ih q n,if_pos u]
   rw [if_neg u] at h;cases h;simp only [run,ih q n,if_neg u]
  rename_i B;have q:=ih h n;simp only [run,q];cases e<;>grind
 |loop b ih=>
  intro σ σ' lo lo' e ps h n;cases lo with
  |nil=>grind[zK,run,CY]
  |cons o lo=>simp only [zK,qaf,qaI] at h;obtain ⟨rfl,rfl,_,rfl⟩:=h;exact n.1
 |rf f H live as b _ _=>
  intro σ σ' lo lo' e ps h n;cases lo with
  |nil=>
   simp only [zK] at h
   grind
  |cons o lo=>simp only [zK,qaf,qaI] at h;obtain ⟨rfl,rfl,_,rfl⟩:=h;exact n.1
def Ls (Γ:Gam)(fu:Nat)(ans:List (Nat×Ans))(args:List X)(inb:List Bx):Option (Option (X×List Bx)×List Prop):=
 match args with
 |.yl i::as=>match inb[i]? with
  |some (.loop .ready none tm ps assign body)=>
   match Ko ps as tm with
   |none=>none
   |some tm=>match zK Γ ans inb.length fu assign ⟨tm,inb⟩ [] with
    |some (.norm,σ,_,ps1)=>match zbP σ.bx i with
     |none=>none
     |some bx=>match zK Γ ans inb.length fu body ⟨σ.tm,bx⟩ [] with
      |none=>none
      |some (.norm,σ,_,ps2)=>some ((jD σ.bx i .busy .ready none).bind fun bx=>pack inb.length (.v (.bool true)) bx,ps1++ps2)
      |some (e,σ,_,ps2)=>some ((jD σ.bx i .busy .done (some e)).bind fun bx=>pack inb.length (.v (.bool false)) bx,ps1++ps2)
    |_=>none
  |_=>none
 |_=>none
theorem Lr (h:Ls Γ fu ans args inb=some (r,ps))(hp:kX ps):zl7 Γ fu args inb=r:=by
 unfold Ls at h;split at h
 ·rename_i i as;split at h
  ·rename_i tm J f n q;split at h
   ·grind
   rename_i A hz;split at h
   ·rename_i σ1 E B u;split at h
    ·grind
    rename_i H a;split at h
    ·grind
    next σ2 y F j=>cases h;obtain ⟨m,l⟩:=fZ.1 hp;simp only [zl7,q,hz,iC u m,a,iC j l]
    rename_i j;cases h;obtain ⟨m,l⟩:=fZ.1 hp;simp only [zl7,q,hz,iC u m,a,iC j l]
   grind
  grind
 grind
theorem yS (h:Ls (ah T ext n) n ans args inb=some (r,ps))(hp:kX ps):
  ah T ext (n+1) .yl args inb=r:=by
 grind[ah,Lr]
def zsp (Γ:Gam)(fu:Nat)(ans:List (Nat×Ans))(lo:List (Ex×St))(fd:Fun)(args:List X)(inb:List Bx):Option (Option (X×List Bx)×List Prop):=
 if args.length==fd.np then
  match zK Γ ans inb.length fu fd.body ⟨H8 0 args,inb⟩ lo with
  |some (.norm,σ,_,ps)|some (.ret,σ,_,ps)=>some ((Xo σ fd.res).bind fun xs=>pack inb.length (qW xs) σ.bx,ps)
  |_=>none
 else none
theorem Wn {fd:Fun}(h:zsp Γ fu ans lo fd args inb=some (r,ps))(hp:kX ps):zl8 Γ fu fd args inb=r:=by
 unfold zsp at h;unfold zl8;split at h
 ·rename_i f;rw [if_pos f];split at h;next a=>cases h;rw [iC a hp]
  next a=>cases h;rw [iC a hp]
  grind
 grind
def NP (T:FuncId->Option Fun)(ext:Ext)(n:Nat)(ans:List (Nat×Ans))(lo:List (Ex×St))(f:FuncId)(args:List X)(inb:List Bx):Option (Option (X×List Bx)×List Prop):=
 match ext f with
 |some _=>none
 |none=>match T f with
  |some fd=>zsp (ah T ext n) n ans lo fd args inb
  |none=>none
theorem qg {f:FuncId}(h:NP T ext n ans lo f args inb=some (r,ps))(hp:kX ps):
  ah T ext (n+1) (.fn f) args inb=r:=by
 grind[NP,ah,Wn]
theorem dY {r:Option (Ex×St)}(hc:canon nIn τ=some σ)(hf:f σ=some (.norm,τ'))(hr:iter nIn f n τ'=r):iter nIn f (n+1) τ=r:=by grind[iter]
theorem bK {e:Ex}(hc:canon nIn τ=some σ)(hf:f σ=some (e,τ'))(he:e≠.norm):iter nIn f (n+1) τ=some (e,τ'):=by simp_all[iter]
def Ht (T:FuncId->Option Fun)(f:FuncId):C:=match T f with
 |some fd=>fd.body
 |none=>.skip
end Go.Em
