/-.-/
import Derived.Deep.RegionLaw
import Derived.Lib.SliceRun
import Derived.Lib.Walk
import Derived.Sort.WalkB12
import Derived.Sort.EncStr
import Derived.Shelf.RegionOpenPlain
import Derived.Shelf.LaysC
import Derived.Shelf.LaysM
import Derived.Shelf.Lays
import Derived.Shelf.Strconv.Itoa1
import Derived.Shelf.Strconv.Itoa2
import Derived.Lib.ItoaMem
import Derived.BigCall
import Derived.BigGuard
import Derived.Test.YtcbeoccmflnejaaGreatDoorU38
set_option linter.all false
namespace Go.Proofs.YtcbeoccmflnejaaGreatDoor
open Go.Em Go.RowKit Go.Lib
section
variable {rows:qaW}{cs vs:List Value}{v:Value}
section
variable {P:Program} {R:CodeRel} {K:Kn}
theorem lM {w w':World}{c0 c':CB}{sz:Nat}{new:qaW}{res:X}(hI:Inv P R K [c0] [.row sz rows] w)(hf:FrameOk c0.owns w w')(hown:∀b o,c'.owns b o->c0.owns b o\/w.heap.size<=b)
  (hB:BoxOk P R K ([c0]++[c']) w' (.row sz new) c') (hres:Rep K ([c0]++[c']) res v):Post P R K [c0] [.row sz rows] w res [.dead,.row sz new] (.returned v) w':=by
 have m:∀b o,¬Owns [c0] [Bx.dead] b o:=by
  rintro b o ⟨i,c,B,j,a,n,A⟩
  cases i with
  |zero=>simp at a;subst a;simp [Bx.live] at n
  |succ i=>simp at a
 have f:∀b o,c0.owns b o->Owns [c0] [Bx.row sz rows] b o:=fun b o h=>⟨0,c0,.row sz rows,rfl,rfl,rfl,h⟩;have q:=hI.kill 0;have y:Inv P R K [c0] [.dead] w':=Inv.frame q hf (fun b o v e l=>by have:=hI.apart b o (f b o l);rw [this] at e;cases e) (fun b o l=>absurd l (m b o));refine ⟨v,K,[c'],rfl,⟨y.push hB (fun b o l=>?_) (fun b o _=>m b o),hres,KLe.refl _,fun b o u e=>.inl e,fun b o l=>?_,hf.mono fun b o _ h=>f b o h,fun i B e E=>?_⟩⟩
 ·rcases hown b o l with h|h;·exact hI.apart b o (f b o h)
  cases q:K b o with
  |none=>rfl
  |some u=>have:=hI.known_lt q;omega
 ·obtain ⟨i,c,B,j,a,n,A⟩:=l
  match i,j,a with
  |0,j,a=>simp at a;subst a;simp [Bx.live] at n
  |1,j,a=>
   simp at j;subst j;rcases hown b o A with h|h;·exact .inl (f b o h)
   exact .inr h
  |i+2,j,a=>simp at a
 cases i with
 |zero=>simp at e;subst e;cases E
 |succ i=>simp at e
theorem gK (l vs:List Value)(o q:Nat)(h:o+vs.length<=l.length):(l.take o++vs++l.drop (o+vs.length)).toArray[q]?=if q<o then l[q]? else if q<o+vs.length then vs[q-o]? else l[q]?:=by
 have j:(l.take o).length=o:=by rw [qag];omega
 rw [List.getElem?_toArray];by_cases a:q<o;·rw [if_pos a,qaL,qar (by omega),qax,if_pos a]
 rw [if_neg a,qaL,qaz (by omega),j];by_cases f:q<o+vs.length;·rw [if_pos f,qar (by omega)]
 rw [if_neg f,qaz (by omega),qaw]
 congr 1;omega
theorem fH (W:World)(b o:Nat)(arr:Array Value)(el:TypeId)(vs:List Value)(hb:W.heap[b]?=some (.cells arr el (0,0)))(hl:o+vs.length<=arr.size)(h1:∀v∈vs,v.oneCell'=true):
  W.setCells b o vs=W.setRow b (arr.toList.take o++vs++arr.toList.drop (o+vs.length)).toArray:=by
 have h:∀j,j<vs.length->(W.cell? ⟨b,o+j,none⟩).isSome=true:=fun j m=>by simp only [World.cell?,hb];rw [qaC (by omega)];rfl
 have l:∀j,j<vs.length->W.frozen? ⟨b,o+j,none⟩=false:=fun j m=>by simp [World.frozen?,hb]
 have f:=run_storeCells_cells (P:=Tryz.prog) b o vs 0 W (by simpa using h) (by simpa using l) h1;have a:=run_storeCells_at Tryz.prog b o el vs 0 arr W hb (by omega) h1;rw [f] at a;simp only [Nat.add_zero] at a;injection a
theorem Xr {K:Kn}{x:List X}(hf:Flat K 10 rows cs)(hv:Flat K 10 [x] vs)(i:Nat):Flat K 10 (rows.take i++[x]++rows.drop i) (cs.take (i*10)++vs++cs.drop (i*10)):=
 ((hf.take i).append hv).append (hf.drop i)
theorem Iy {n i k:Nat}(hcl:cs.length=n*10)(hvl:vs.length=10)(hi:i<=n)(h:(cs.take (i*10)++vs++cs.drop (i*10))[k]?=some v):
  (k<i*10/\cs[k]?=some v)\/(i*10<=k/\k<(i+1)*10/\vs[k-i*10]?=some v)\/((i+1)*10<=k/\k<(n+1)*10/\cs[k-10]?=some v):=by
 have j:(cs.take (i*10)).length=i*10:=by rw [qag];omega
 by_cases a:k<i*10;·rw [qaL,qar (by omega),qax,if_pos a] at h;exact .inl ⟨a,h⟩
 rw [qaL,qaz (by omega),j] at h;by_cases f:k<(i+1)*10;·rw [qar (by omega)] at h;exact .inr (.inl ⟨by omega,f,h⟩)
 rw [qaz (by omega),qaw] at h;have e:i*10+(k-i*10-vs.length)=k-10:=by omega
 rw [e] at h;have:=(qak.1 h).1;exact .inr (.inr ⟨by omega,by omega,h⟩)
set_option maxRecDepth 100000 in
theorem zbJ {R:CodeRel}(n i:Nat)(t:Bool)(x:List X)(rows:qaW)(hi:i<=n)(hn:n=rows.length)(hn2:n<=2000000):
  FSem Tryz.prog R 93 [.bs 0 0 n,.v (.int .i64 (Int.ofNat i)),.sl t 10 [x]] [.row 10 rows] (.bs 1 0 (n+1)) [.dead,.row 10 (rows.take i++[x]++rows.drop i)]:=by
 intro K C w f hI ha;have hs:f.size=3:=ha.1;have r0:=ha.2 0 _ f[0] rfl (qaC (by omega));have r1:=ha.2 1 _ f[1] rfl (qaC (by omega));have r2:=ha.2 2 _ f[2] rfl (qaC (by omega));have qb:f=#[f[0],f[1],f[2]]:=by
  refine Array.ext (by simp [hs]) fun j M E=>?_
  match j,M,E with
  |0,_,_=>rfl
  |1,_,_=>rfl
  |2,_,_=>rfl
  |j+3,M,_=>omega
 rw [qb];generalize f[0]=v0 at r0;generalize f[1]=v1 at r1;generalize f[2]=v2 at r2;obtain rfl:=rep_v r1;obtain ⟨c0,hC⟩:∃c0,C=[c0]:=by
  have:=hI.size
  match C,this with
  |[c0],_=>exact ⟨c0,rfl⟩
 subst hC;obtain ⟨vb,vo,c2,rfl⟩:∃vb vo c2,v2=.slice (some ⟨vb,vo,none⟩) 1 c2:=by
  generalize hx:X.sl t 10 [x]=y at r2;cases r2<;>try cases hx
  exact ⟨_,_,_,rfl⟩
 obtain ⟨B,hv,px⟩:=r2.flat;have Q:B.length=10:=by simpa using hv.len
 have pe:∀j v,B[j]?=some v->w.cell? ⟨vb,vo+j,none⟩=some v:=fun j v h=>hI.known _ _ _ (px j v h);have U:=hv.oneCell;obtain ⟨tA,kA,rb,qq⟩:∃tA kA,w.shape? vb=some (tA,kA)/\kA≠0:=by
  have h0:=pe 0 _ (qad (by omega));unfold World.cell? at h0;split at h0;next a el fr hh=>refine ⟨el,a.size,by simp [World.shape?,hh],fun e=>?_⟩;have:=(qaS.1 h0).1;omega
  cases h0
 have py:∀w':World,w'.heap=w.heap->(Builtin.firstCells 10 1 (.slice (some ⟨vb,vo,none⟩) 1 c2)).run Tryz.prog w'=.ok B.toArray w':=fun w' hw=>by refine run_firstCells_some w' 10 1 ⟨vb,vo,none⟩ 1 c2 B (by omega) (fun j u hu=>?_);rw [Addr.add_lit];have:=pe j u hu;simp only [World.cell?,hw] at this ⊢;exact this
 have pn:(zeroP Tryz.prog 81).isSome=true:=by kernel_rfl
 obtain ⟨rk,pn⟩:=Option.isSome_iff_exists.1 pn;have pz:sizeP Tryz.prog 81=some 10:=by kernel_rfl
 have rh:bytesP Tryz.prog 81=some 152:=by kernel_rfl
 have TD:∀(ob:Option Addr) (c:Nat) (olds:List Value),i=n->n<=c->c<n+1->(ob=none->n=0/\c=0)->Flat K 10 rows olds->(∀w':World,w'.heap=w.heap->(Builtin.firstCells 10 n (.slice ob n c)).run Tryz.prog w'=.ok olds.toArray w')->
   Calls Tryz.prog 93 #[.slice ob n c,.int .i64 (Int.ofNat i),.slice (some ⟨vb,vo,none⟩) 1 c2] w (Post Tryz.prog R K [c0] [.row 10 rows] w (.bs 1 0 (n+1)) [.dead,.row 10 (rows.take i++[x]++rows.drop i)]):=by
  intro ob c olds pd qt qe pu pp po;subst pd;have qi:∃rest:List Value,(∀ty,(Builtin.append_ #[35,35] ty #[.slice ob i c,.slice (some ⟨vb,vo,none⟩) 1 c2]).run Tryz.prog w=.ok (.slice (some ⟨w.heap.size,0,none⟩) (i+1) (grownCap w (i+1) c 81)) (w.drew.alloc (.cells (olds++B++rest).toArray 81)))/\rest.length=(grownCap w (i+1) c 81-(i+1))*10:=by obtain ⟨rest,M,E⟩:=run_app_grow (P:=Tryz.prog) (w:=w) (ty:=0) (ob:=ob) (oc:=some ⟨vb,vo,none⟩) (n:=i) (cap:=c) (m:=1) (c:=c2) qM qM pz rh pn olds B po py qe (by omega) (by omega) (by omega);exact ⟨rest,fun ty=>M,E⟩
  obtain ⟨rest,O,pv⟩:=qi;have hm:=grownCap_ge w (i+1) c 81;generalize grownCap w (i+1) c 81=m at O pv hm;refine (Rt ob i c vb vo c2 w _ _ qt hn2 pu O).mono ?_
  rintro e w' ⟨rfl,rfl⟩
  have qk:=pp.append hv;have e1:rows.take i++[x]++rows.drop i=rows++[x]:=by rw [hn,List.take_length,List.drop_length,List.append_nil]
  rw [e1];have qz:olds.length=i*10:=by rw [pp.len,<-hn]
  have rj:(olds++B++rest).toArray.size=m*10:=by simp only [List.size_toArray,qau,qz,Q,pv];omega
  refine lM (c':=.at w.heap.size 0 (m*10) 10) hI (FrameOk.trans (FrameOk.drew _ w) (FrameOk.alloc (S:=c0.owns) _ _) (fun _ _ _ h=>h)) (fun b o h=>.inr (by rw [h.1];exact Nat.le_refl _)) (qk.box (alloc_get w.drew _) (fun k v hk=>?_) (by simp only [qau,List.length_singleton];omega) (by omega)) ?_;·rw [Nat.zero_add,List.getElem?_toArray,qar (qak.1 hk).1];exact hk
  have:=@Rep.bs K ([c0]++[.at w.heap.size 0 (m*10) 10]) 1 0 (i+1) w.heap.size 0 (m*10) 10 m rfl (by omega) (by omega);simpa using this
 generalize rg:X.bs 0 0 n=y0 at r0;cases r0<;>try cases rg
 case bsNil ob hc=>
  have e0:c0=.ghost:=by simpa using hc
  subst e0;have qn:i=0:=by omega
  have ra:rows=[]:=qaP hn.symm;refine TD ob 0 [] qn (Nat.le_refl _) (by omega) (fun _=>⟨rfl,rfl⟩) (by rw [ra];exact Flat.nil) (fun w' _=>?_);cases ob<;>simp [Builtin.firstCells,loadCells,loadCellsFrom]
 case bs b base hi' sz cap hc hcap hlen=>
  have e0:c0=.at b base hi' sz:=by simpa using hc
  subst e0;obtain ⟨a,el,g1,g2,g3,F,Z⟩:=(hI.box 0 _ _ rfl rfl).flat;subst g1;simp only [Nat.zero_mul,Nat.zero_add,Nat.add_zero] at hcap ⊢;generalize qd:(a.toList.drop base).take (rows.length*10)=cs at Z;have N:cs.length=n*10:=by rw [Z.len,<-hn]
  have Y:∀j v,cs[j]?=some v->a[base+j]?=some v:=fun j v h=>by
   rw [<-qd,qax] at h;split at h;·rw [qaw] at h;simpa using h
   cases h
  have pi:∀j v,cs[j]?=some v->w.cell? ⟨b,base+j,none⟩=some v:=fun j v h=>by simp only [World.cell?,F];exact Y j v h
  have pc:=Z.oneCell;have qv:∀o,base<=o->o<hi'->K b o=none:=fun o M E=>hI.apart b o ⟨0,_,_,rfl,rfl,rfl,⟨rfl,M,E⟩⟩;have pr:∀o,w.frozen? ⟨b,o,none⟩=false:=fun o=>by simp [World.frozen?,F]
  have FV:=Xr Z hv i;by_cases pd:i=n
  ·by_cases H:n+1<=cap
   ·subst pd;have pw:=run_storeCells_at Tryz.prog b (base+i*10) el B 0 a w F (by omega) U;simp only [Nat.add_zero] at pw;have O:∀ty,(Builtin.append_ #[35,35] ty #[.slice (some ⟨b,base,none⟩) i cap,.slice (some ⟨vb,vo,none⟩) 1 c2]).run Tryz.prog w=.ok (.slice (some ⟨b,base,none⟩) (i+1) cap) (w.setRow b (a.toList.take (base+i*10)++B++a.toList.drop (base+i*10+B.length)).toArray):=fun ty=>run_app_fit (P:=Tryz.prog) (ty:=ty) (ob:=some ⟨b,base,none⟩) qM qM pz B _ (py w rfl) H (fun ad e=>by cases e;rw [Addr.add_lit];exact pw) (fun e=>by cases e);refine (Rt _ i cap vb vo c2 w _ _ (by omega) hn2 (fun e=>by cases e) O).mono ?_
    rintro e w' ⟨rfl,rfl⟩
    have pa:∀q,(a.toList.take (base+i*10)++B++a.toList.drop (base+i*10+B.length)).toArray[q]?=if q<base+i*10 then a[q]? else if q<base+i*10+B.length then B[q-(base+i*10)]? else a[q]?:=fun q=>by rw [gK _ _ _ _ (by have:a.toList.length=a.size:=Array.length_toList;omega)];simp
    have pb:(a.toList.take (base+i*10)++B++a.toList.drop (base+i*10+B.length)).toArray.size=a.size:=by simp;omega
    generalize (a.toList.take (base+i*10)++B++a.toList.drop (base+i*10+B.length)).toArray=arr' at pa pb;refine lM (c':=.at b base hi' 10) hI (FrameOk.setRow F pb fun q hq=>?_) (fun b' o' h=>.inl h) (FV.box (setRow_heap w b a arr' el _ F) (fun k v hk=>?_) (by rw [FV.len.symm.trans (by simp;omega:_=(i+1)*10)];omega) (by omega)) ?_
    ·rw [pa];have pf:¬(base<=q/\q<hi'):=fun hh=>hq ⟨rfl,hh.1,hh.2⟩;by_cases h5:q<base+i*10;·rw [if_pos h5]
     rw [if_neg h5,if_neg (by omega)]
    ·rw [pa];rcases Iy N Q (Nat.le_refl _) hk with ⟨M,E⟩|⟨M,E,h3⟩|⟨M,E,h3⟩;·rw [if_pos (by omega)];exact Y k v E
     ·rw [if_neg (by omega),if_pos (by omega),<-h3];congr 1;omega
     omega
    have:=@Rep.bs K ([.at b base hi' 10]++[.at b base hi' 10]) 1 0 (i+1) b base hi' 10 cap rfl (by omega) H;simpa using this
   refine TD (some ⟨b,base,none⟩) cap cs pd (by omega) (by omega) (fun e=>by cases e) Z (fun w' hw=>?_);refine run_firstCells_some w' 10 n ⟨b,base,none⟩ n cap cs (by omega) (fun j u hu=>?_);rw [Addr.add_lit];have:=pi j u hu;simp only [World.cell?,hw] at this ⊢;exact this
  have ps:i<n:=by omega
  by_cases H:n+1<=cap
  ·have qs:a.toList.length=a.size:=Array.length_toList;have rd:w.shape? b=some (el,a.size):=by simp [World.shape?,F]
   refine (Rq b base n cap i vb vo c2 cs B w ps H hn2 (fun j k hj hk e qu=>?_) N Q pi (fun j hj=>?_) (fun j _=>pr _) pe pc U tA el kA a.size rb rd (by omega) qq pr).mono ?_;·have pt:=px j _ (qad (by omega));rw [e,qu,qv _ (by omega) (by omega)] at pt;cases pt
   ·simp only [World.cell?,F];rw [qaC (by omega)];rfl
   rintro e w' ⟨rfl,rfl⟩
   have qf:(cs.drop (i*10)).length=(n-i)*10:=by rw [qaK,N];omega
   have pk:w.drew.heap[b]?=some (.cells a el (0,0)):=F;rw [fH w.drew b _ a el _ pk (by omega) (fun v pj=>pc v (List.mem_of_mem_drop pj))];have l:=fun q=>gK a.toList (cs.drop (i*10)) (base+(i+1)*10) q (by omega);have J:(a.toList.take (base+(i+1)*10)++cs.drop (i*10)++a.toList.drop (base+(i+1)*10+(cs.drop (i*10)).length)).toArray.size=a.size:=by simp only [List.size_toArray,qau,qag,qaK,qs];omega
   generalize (a.toList.take (base+(i+1)*10)++cs.drop (i*10)++a.toList.drop (base+(i+1)*10+(cs.drop (i*10)).length)).toArray=arr1 at l J ⊢;have V:=setRow_heap w.drew b a arr1 el (0,0) pk;have pl:arr1.toList.length=arr1.size:=Array.length_toList;rw [fH _ b _ arr1 el _ V (by omega) U];have rO:=fun q=>gK arr1.toList B (base+i*10) q (by omega);have L:(arr1.toList.take (base+i*10)++B++arr1.toList.drop (base+i*10+B.length)).toArray.size=arr1.size:=by simp only [List.size_toArray,qau,qag,qaK,pl];omega
   generalize (arr1.toList.take (base+i*10)++B++arr1.toList.drop (base+i*10+B.length)).toArray=arr2 at rO L ⊢;have ph:=setRow_heap _ b arr1 arr2 el (0,0) V;simp only [Array.getElem?_toList] at l rO;refine lM (c':=.at b base hi' 10) hI (FrameOk.trans (FrameOk.drew _ w) (FrameOk.trans (FrameOk.setRow pk J fun q hq=>?_) (FrameOk.setRow (S:=(CB.at b base hi' 10).owns) V L fun q hq=>?_) (fun _ _ _ h=>h)) (fun _ _ _ h=>h)) (fun b' o' h=>.inl h) (FV.box ph (fun k v hk=>?_) ?_ (by omega)) ?_
   ·rw [l];have pf:¬(base<=q/\q<hi'):=fun hh=>hq ⟨rfl,hh.1,hh.2⟩;by_cases h5:q<base+(i+1)*10;·rw [if_pos h5]
    rw [if_neg h5,if_neg (by omega)]
   ·rw [rO];have pf:¬(base<=q/\q<hi'):=fun hh=>hq ⟨rfl,hh.1,hh.2⟩;by_cases h5:q<base+i*10;·rw [if_pos h5]
    rw [if_neg h5,if_neg (by omega)]
   ·rw [rO];rcases Iy N Q hi hk with ⟨M,E⟩|⟨M,E,h3⟩|⟨M,E,h3⟩;·rw [if_pos (by omega),l,if_pos (by omega)];exact Y k v E
    ·rw [if_neg (by omega),if_pos (by omega),<-h3];congr 1;omega
    rw [if_neg (by omega),if_neg (by omega),l,if_neg (by omega),if_pos (by omega),qaw,<-h3];congr 1;omega
   ·have:=FV.len;simp only [qau,qag,qaK,List.length_singleton];omega
   have:=@Rep.bs K ([.at b base hi' 10]++[.at b base hi' 10]) 1 0 (n+1) b base hi' 10 cap rfl (by omega) H;simpa using this
  refine (Xq b base n cap i vb vo c2 cs B w ps (by omega) (by omega) (by omega) N Q pi pe pc U).mono ?_
  rintro e w' ⟨G,tl,hG,rfl,re,rfl⟩
  have qf:(cs.drop (i*10)).length=(n-i)*10:=by rw [qaK,N];omega
  have qa:(cs.take (i*10)).length=i*10:=by rw [qag];omega
  generalize hA:(cs.take (i*10)++tl).toArray=A;have ri:A.size=G*10:=by rw [<-hA,List.size_toArray,qau,qa,re];omega
  have qr:A.toList.length=A.size:=Array.length_toList;have pg:(w.alloc (.cells A 81)).drew.heap[w.heap.size]?=some (.cells A 81 (0,0)):=alloc_get w _;rw [fH _ _ _ A 81 _ pg (by omega) U];have l:=fun q=>gK A.toList B (i*10) q (by omega);have J:(A.toList.take (i*10)++B++A.toList.drop (i*10+B.length)).toArray.size=A.size:=by simp only [List.size_toArray,qau,qag,qaK,qr];omega
  generalize (A.toList.take (i*10)++B++A.toList.drop (i*10+B.length)).toArray=arr1 at l J ⊢;have V:=setRow_heap _ w.heap.size A arr1 81 (0,0) pg;have pl:arr1.toList.length=arr1.size:=Array.length_toList;have W:((w.alloc (.cells A 81)).drew.setRow w.heap.size arr1).drew.heap[w.heap.size]?=some (.cells arr1 81 (0,0)):=V;rw [fH _ _ _ arr1 81 _ W (by omega) (fun v pj=>pc v (List.mem_of_mem_drop pj))];have rO:=fun q=>gK arr1.toList (cs.drop (i*10)) ((i+1)*10) q (by omega);have L:(arr1.toList.take ((i+1)*10)++cs.drop (i*10)++arr1.toList.drop ((i+1)*10+(cs.drop (i*10)).length)).toArray.size=arr1.size:=by simp only [List.size_toArray,qau,qag,qaK,pl];omega
  generalize (arr1.toList.take ((i+1)*10)++cs.drop (i*10)++arr1.toList.drop ((i+1)*10+(cs.drop (i*10)).length)).toArray=arr2 at rO L ⊢;have ph:=setRow_heap _ w.heap.size arr1 arr2 81 (0,0) W;simp only [Array.getElem?_toList] at l rO;have qm:FrameOk (CB.at b base hi' 10).owns w (((w.alloc (.cells A 81)).drew.setRow w.heap.size arr1).drew.setRow w.heap.size arr2):=by
   have f1:FrameOk (fun p _=>p=w.heap.size) w (((w.alloc (.cells A 81)).drew.setRow w.heap.size arr1).drew.setRow w.heap.size arr2):=
    FrameOk.trans (FrameOk.alloc (S:=fun p _=>p=w.heap.size) w _) (FrameOk.trans (FrameOk.drew _ _) (FrameOk.trans (FrameOk.setRow pg J fun q hq=>absurd rfl hq) (FrameOk.trans (FrameOk.drew _ _) (FrameOk.setRow W L fun q hq=>absurd rfl hq) (fun _ _ _ h=>h)) (fun _ _ _ h=>h)) (fun _ _ _ h=>h)) (fun _ _ _ h=>h)
   exact f1.mono fun p o hp h=>by omega
  refine lM (c':=.at w.heap.size 0 (G*10) 10) hI qm (fun b' o' h=>.inr (by rw [h.1];exact Nat.le_refl _)) (FV.box ph (fun k v hk=>?_) ?_ (by omega)) ?_
  ·rw [Nat.zero_add,rO];rcases Iy N Q hi hk with ⟨M,E⟩|⟨M,E,h3⟩|⟨M,E,h3⟩;·rw [if_pos (by omega),l,if_pos (by omega),<-hA,List.getElem?_toArray,qar (by omega),qax,if_pos M];exact E
   ·rw [if_pos (by omega),l,if_neg (by omega),if_pos (by omega)];exact h3
   rw [if_neg (by omega),if_pos (by omega),qaw,<-h3];congr 1;omega
  ·simp only [qau,qag,qaK,List.length_singleton];omega
  have:=@Rep.bs K ([.at b base hi' 10]++[.at w.heap.size 0 (G*10) 10]) 1 0 (n+1) w.heap.size 0 (G*10) 10 G rfl (by omega) (by omega);simpa using this
end
end
theorem H6 {P:Program}(w:World)(t e ty:TypeId)(z:Value)(ht:P.underlying t=some (.slice e))(hv:∀w,(zeroValue e).run P w=.ok z w)(b o n c:Nat)(hn:0<n)
  (h1:∀v∈(Builtin.zeroCells z.cells n).toList,v.oneCell'=true)
  (hc:∀j,j<(Builtin.zeroCells z.cells n).toList.length->(w.cell? ⟨b,o+j,none⟩).isSome=true) (hf:∀j,j<(Builtin.zeroCells z.cells n).toList.length->w.frozen? ⟨b,o+j,none⟩=false):
  (Builtin.clear_ #[t] ty #[.slice (some ⟨b,o,none⟩) n c]).run P w=.ok (.tuple #[]) (w.setCells b o (Builtin.zeroCells z.cells n).toList):=by
 have a:=run_storeCells_cells (P:=P) b o (Builtin.zeroCells z.cells n).toList 0 w (by simpa using hc) (by simpa using hf) h1;simp only [Nat.add_zero] at a;obtain ⟨m,rfl⟩:=pR_ n;generalize hz:(Builtin.zeroCells z.cells (m+1)).toList=zs at a ⊢;simp [Builtin.clear_,run_underlying ht,hv,hz,a]
def zslot:Value:=.agg #[.int .i64 0,.int .i64 0,.int .i64 0,.string ⟨#[]⟩,.slice none 0 0,.slice none 0 0,.int .i64 0,.int .i64 0,.slice none 0 0,.slice none 0 0]
theorem zB (n:Nat):(Builtin.zeroCells zslot.cells n).toList.length=n*10:=by unfold Builtin.zeroCells;rw [Array.length_toList,Array.size_map,Array.size_range];rfl
theorem zA (n:Nat):∀v∈(Builtin.zeroCells zslot.cells n).toList,v.oneCell'=true:=by
 intro v f;unfold Builtin.zeroCells at f;simp only [Array.toList_map,qam] at f;obtain ⟨i,_,rfl⟩:=f;have j:zslot.cells.size=10:=rfl;have h:i%zslot.cells.size<10:=by rw [j];exact Nat.mod_lt _ (by omega)
 generalize i%zslot.cells.size=q at h;have a:((List.range 10).all fun q=>(zslot.cells[q]!).oneCell')=true:=by kernel_rfl
 exact qas.1 a q (List.mem_range.2 h)
set_option maxHeartbeats 4000000 in
set_option maxRecDepth 1000000 in
theorem del_walk (b off n c i j:Nat)(cs:List Value)(w:World)(hij:i<j)(hj:j<=n)(hnc:n<=c)(hcl:cs.length=n*10)
  (hcs:∀j v,cs[j]?=some v->w.cell? ⟨b,off+j,none⟩=some v) (hfz:∀o,w.frozen? ⟨b,o,none⟩=false) (h1c:∀v∈cs,v.oneCell'=true):
  Calls Tryz.prog 88 #[.slice (some ⟨b,off,none⟩) n c,.int .i64 i,.int .i64 j] w fun e w'=>e=.returned (.slice (some ⟨b,off,none⟩) (n-(j-i)) c)/\w'=(w.drew.setCells b (off+i*10) (cs.drop (j*10))).setCells b (off+(i+(n-j))*10) (Builtin.zeroCells zslot.cells (n-(i+(n-j)))).toList:=by
 have mixed:Tryz.prog.follows .mixedOrders=true:=by kernel_rfl
 obtain ⟨i0,hi0,hz0⟩:∃i0,Tryz.prog.info? 81=some i0/\i0.size=10:=qac.1 info78;obtain ⟨news,hnews⟩:∃news,news=cs.drop (j*10):=⟨_,rfl⟩;have hlen:news.length=(n-j)*10:=by rw [hnews,qaK,hcl];omega
 have hget:∀(t:Nat) (u:Value),news[t]?=some u->w.cell? ⟨b,off+j*10+t,none⟩=some u:=fun t u h=>by rw [hnews,qaw] at h;rw [Nat.add_assoc];exact hcs _ _ h
 obtain ⟨A,hA,hsrc⟩:∃A:Addr,(if c=j then some (⟨b,off,none⟩:Addr) else some ⟨b,off+j*10,none⟩)=some A/\Hid (∀t u,news[t]?=some u->w.drew.cell? (A.add t)=some u):=by
  by_cases h:c=j
  ·refine ⟨⟨b,off,none⟩,by simp [h],fun t u hu=>?_⟩;have h0:news.length=0:=by rw [hlen];omega
   rw [List.length_eq_zero_iff.1 h0] at hu;simp at hu
  refine ⟨⟨b,off+j*10,none⟩,by simp [h],fun t u hu=>?_⟩;rw [Addr.add_lit];exact hget t u hu
 have s1:Hid (news.length=(n-j)*10):=hlen;have s2:Hid (∀u∈news,u.oneCell'=true):=fun u hu=>h1c u (by rw [hnews] at hu;exact List.mem_of_mem_drop hu);have hsome:∀t,t<n*10->(w.cell? ⟨b,off+t,none⟩).isSome=true:=fun t ht=>by rw [hcs t _ (qad (by omega))];rfl
 have s3:Hid (∀t,t<news.length->(w.drew.cell? ⟨b,off+i*10+t,none⟩).isSome=true/\w.drew.frozen? ⟨b,off+i*10+t,none⟩=false):=fun t ht=>by rw [hlen] at ht;rw [Nat.add_assoc];exact ⟨hsome _ (by omega),hfz _⟩
 obtain ⟨W1,hW1⟩:∃W1,W1=w.drew.setCells b (off+i*10) news:=⟨_,rfl⟩;have hsp1:∀k,k<n*10->(W1.cell? ⟨b,off+k,none⟩).isSome=true:=fun k hk=>by rw [hW1];exact isSome_setCells b _ _ _ (fun t ht=>by rw [hlen] at ht;rw [Nat.add_assoc];exact hsome _ (by omega)) _ (hsome k hk)
 have hf1:∀o,W1.frozen? ⟨b,o,none⟩=false:=fun o=>by rw [hW1,World.frozen?_setCells];exact hfz o
 have zmQ:∀ty,(Builtin.clear_ #[35] ty #[.slice (some ⟨b,off+(i+(n-j))*10,none⟩) (n-(i+(n-j))) (c-(i+(n-j)))]).run Tryz.prog W1=.ok (.tuple #[]) (W1.setCells b (off+(i+(n-j))*10) (Builtin.zeroCells zslot.cells (n-(i+(n-j)))).toList):=fun ty=>H6 W1 35 81 ty zslot qM Tryz.zeroValue81 b _ _ _ (by omega) (zA _) (fun t ht=>by rw [zB] at ht;rw [Nat.add_assoc];exact hsp1 _ (by omega)) (fun t _=>hf1 _);obtain ⟨zs,hzs⟩:∃zs,zs=(Builtin.zeroCells zslot.cells (n-(i+(n-j)))).toList:=⟨_,rfl⟩;simp only [<-hzs] at zmQ ⊢;have hW:Hid (W1=w.drew.setCells b (off+i*10) news):=hW1;have hic:i<=c:=by omega
 have hjc:j<=c:=by omega
 have zp0:i<=n:=by omega
 rw [<-hnews];clear hzs hsp1 hf1 hsome hW1 hget hnews hlen hcs hfz h1c
 go_enter Tryz.func88,Tryz.ntmps88
 go_wp2_with fail
 go_region_law_o (refine step_append_room rfl (.tmp 22) (.tmp 25) 35 rfl 81 i0 10 qM hi0 hz0 b off i c (by simp [Act.eval,Act.put]) A (n-j) (c-j) news (by simp [Act.eval,Act.put]) s1.out hsrc.out s2.out (by omega) s3.out ?_;rw [<-hW.out])
 go_wp2
 go_ret
 exact ⟨by rw [show n-(j-i)=i+(n-j) by omega];rfl,by rw [hW.out]⟩
theorem zdu {cs:List Value}{n i j k:Nat}{v:Value}(hcl:cs.length=n*10)(hij:i<j)(hj:j<=n)(h:(cs.take (i*10)++cs.drop (j*10))[k]?=some v):
  (k<i*10/\cs[k]?=some v)\/(i*10<=k/\k<(i+(n-j))*10/\(cs.drop (j*10))[k-i*10]?=some v):=by
 have f:(cs.take (i*10)).length=i*10:=by rw [qag];omega
 by_cases a:k<i*10;·rw [qar (by omega),qax,if_pos a] at h;exact .inl ⟨a,h⟩
 rw [qaz (by omega),f] at h;have:=(qak.1 h).1;rw [qaK] at this;exact .inr ⟨by omega,by omega,h⟩
set_option maxRecDepth 100000 in
theorem zds {R:CodeRel}(n i j:Nat)(rows:qaW)(hij:i<j)(hj:j<=n)(hn:n=rows.length)(hn2:n<=1000):
  FSem Tryz.prog R 88 [.bs 0 0 n,.v (.int .i64 (Int.ofNat i)),.v (.int .i64 (Int.ofNat j))] [.row 10 rows] (.bs 1 0 (n-(j-i))) [.dead,.row 10 (rows.take i++rows.drop j)]:=by
 intro K C w a W U;have hs:a.size=3:=U.1;have r0:=U.2 0 _ a[0] rfl (qaC (by omega));have r1:=U.2 1 _ a[1] rfl (qaC (by omega));have r2:=U.2 2 _ a[2] rfl (qaC (by omega));have Z:a=#[a[0],a[1],a[2]]:=by
  refine Array.ext (by simp [hs]) fun j P Q=>?_
  match j,P,Q with
  |0,_,_=>rfl
  |1,_,_=>rfl
  |2,_,_=>rfl
  |j+3,P,_=>omega
 rw [Z];generalize a[0]=v0 at r0;generalize a[1]=v1 at r1;generalize a[2]=v2 at r2;obtain rfl:=rep_v r1;obtain rfl:=rep_v r2;obtain ⟨c0,hC⟩:∃c0,C=[c0]:=by
  have:=W.size
  match C,this with
  |[c0],_=>exact ⟨c0,rfl⟩
 subst hC;generalize pf:X.bs 0 0 n=y0 at r0;cases r0<;>try cases pf
 case bsNil ob hc=>omega
 case bs b base hi' sz cap hc hcap hlen=>
  have e0:c0=.at b base hi' sz:=by simpa using hc
  subst e0;obtain ⟨f,el,g1,g2,g3,E,m⟩:=(W.box 0 _ _ rfl rfl).flat;subst g1;simp only [Nat.zero_mul,Nat.zero_add,Nat.add_zero] at hcap ⊢;generalize pa:(f.toList.drop base).take (rows.length*10)=cs at m;have F:cs.length=n*10:=by rw [m.len,<-hn]
  have u:∀j v,cs[j]?=some v->f[base+j]?=some v:=fun j v h=>by
   rw [<-pa,qax] at h;split at h;·rw [qaw] at h;simpa using h
   cases h
  have pb:∀j v,cs[j]?=some v->w.cell? ⟨b,base+j,none⟩=some v:=fun j v h=>by simp only [World.cell?,E];exact u j v h
  have J:=m.oneCell;have pc:∀o,w.frozen? ⟨b,o,none⟩=false:=fun o=>by simp [World.frozen?,E]
  have FV:=(m.take i).append (m.drop j);have pd:f.toList.length=f.size:=Array.length_toList;refine (del_walk b base n cap i j cs w hij hj (by omega) F pb pc J).mono ?_
  rintro e w' ⟨rfl,rfl⟩
  have pg:=zB (n-(i+(n-j)));have O:=zA (n-(i+(n-j)));generalize (Builtin.zeroCells zslot.cells (n-(i+(n-j)))).toList=zs at pg O;have pi:(cs.drop (j*10)).length=(n-j)*10:=by rw [qaK,F];omega
  have H:w.drew.heap[b]?=some (.cells f el (0,0)):=E;rw [fH w.drew b _ f el _ H (by omega) (fun v pe=>J v (List.mem_of_mem_drop pe))];have l:=fun q=>gK f.toList (cs.drop (j*10)) (base+i*10) q (by omega);have y:(f.toList.take (base+i*10)++cs.drop (j*10)++f.toList.drop (base+i*10+(cs.drop (j*10)).length)).toArray.size=f.size:=by simp only [List.size_toArray,qau,qag,qaK,pd];omega
  generalize (f.toList.take (base+i*10)++cs.drop (j*10)++f.toList.drop (base+i*10+(cs.drop (j*10)).length)).toArray=arr1 at l y ⊢;have B:=setRow_heap w.drew b f arr1 el (0,0) H;have ph:arr1.toList.length=arr1.size:=Array.length_toList;rw [fH _ b _ arr1 el _ B (by omega) O];have V:=fun q=>gK arr1.toList zs (base+(i+(n-j))*10) q (by omega);have A:(arr1.toList.take (base+(i+(n-j))*10)++zs++arr1.toList.drop (base+(i+(n-j))*10+zs.length)).toArray.size=arr1.size:=by simp only [List.size_toArray,qau,qag,qaK,ph];omega
  generalize (arr1.toList.take (base+(i+(n-j))*10)++zs++arr1.toList.drop (base+(i+(n-j))*10+zs.length)).toArray=arr2 at V A ⊢;have Y:=setRow_heap _ b arr1 arr2 el (0,0) B;simp only [Array.getElem?_toList] at l V;refine lM (c':=.at b base hi' 10) W (FrameOk.trans (FrameOk.drew _ w) (FrameOk.trans (FrameOk.setRow H y fun q hq=>?_) (FrameOk.setRow (S:=(CB.at b base hi' 10).owns) B A fun q hq=>?_) (fun _ _ _ h=>h)) (fun _ _ _ h=>h)) (fun b' o' h=>.inl h) (FV.box Y (fun k v hk=>?_) ?_ (by omega)) ?_
  ·rw [l];have N:¬(base<=q/\q<hi'):=fun M=>hq ⟨rfl,M.1,M.2⟩;by_cases L:q<base+i*10;·rw [if_pos L]
   rw [if_neg L,if_neg (by omega)]
  ·rw [V];have N:¬(base<=q/\q<hi'):=fun M=>hq ⟨rfl,M.1,M.2⟩;by_cases L:q<base+(i+(n-j))*10;·rw [if_pos L]
   rw [if_neg L,if_neg (by omega)]
  ·rw [V];rcases zdu F hij hj hk with ⟨P,Q⟩|⟨P,Q,h3⟩;·rw [if_pos (by omega),l,if_pos (by omega)];exact u k v Q
   rw [if_pos (by omega),l,if_neg (by omega),if_pos (by omega),<-h3];congr 1;omega
  ·have:=FV.len;simp only [qau,qag,qaK];omega
  have:=@Rep.bs K ([.at b base hi' 10]++[.at b base hi' 10]) 1 0 (n-(j-i)) b base hi' 10 cap rfl (by omega) (by omega);simpa using this
def zhQ:Ext:=fun _=>none
theorem zio {n b:Nat}(h:n<=1000000)(hb:b<=1000):roomOk n b=true:=by have:n*b<=1000000*1000:=Nat.mul_le_mul h hb;simp only [roomOk,qab,qaI];omega
section
noncomputable def ze0:FuncId->Option Fun:=fun f=>if f==52 then trFun Tryz.prog gl ⟨look [(3,[2]),(2,[2]),(1,[0,4]),(0,[0])],look [],[7],[],[],[]⟩ f else none
theorem zeY:TabOk Tryz.prog gl ze0:=by
 intro f a h;unfold ze0 at h;split at h;·exact ⟨_,h⟩
 cases h
theorem WO (n:Nat):GamOk Tryz.prog (RCode Tryz.prog gl) (callF ze0 zhQ n):=callF_ok zeY (fun _ _ h=>by cases h) n
theorem zj2:(Tryz.prog.info? 81).map (fun i=>(i.zero.map (·.cells.size),i.size,i.bytes))=some (some 10,10,152):=by kernel_rfl
theorem Yv:Tryz.prog.underlying 35=some (.slice 81):=by kernel_rfl
set_option maxHeartbeats 1000000 in
theorem zj0 (n c:Nat)(w:World):Calls Tryz.prog 52 #[.slice none n c] w fun e w'=>e=.returned (.slice none 0 0)/\w'=w:=by
 have mixed:Tryz.prog.follows .mixedOrders=true:=by kernel_rfl
 have q:∀(w:World) (a:Option Addr) (n c n' c':Nat),(binOp .eql 35 (.slice a n c) (.slice none n' c')).run Tryz.prog w=.ok (.bool a.isNone) w:=fun w a n c n' c'=>Lib.run_eql_slice_nil w _ _ a n c n' c' Yv
 go_enter Tryz.func52,Tryz.ntmps52
 go_wp2
 go_ret
 exact ⟨rfl,rfl⟩
set_option maxHeartbeats 2000000 in
set_option maxRecDepth 100000 in
theorem zgL (a:Addr)(c:Nat)(w:World):Calls Tryz.prog 52 #[.slice (some a) 0 c] w fun e w'=>∃v',e=.returned v'/\w'.ownsRow w.heap.size 81 10 v' 0 []/\Below w.heap.size w w':=by
 have mixed:Tryz.prog.follows .mixedOrders=true:=by kernel_rfl
 obtain ⟨i0,hi,hzz⟩:=qac.1 zj2;simp only [qaM] at hzz;obtain ⟨hz0,hz1,hz2⟩:=hzz;obtain ⟨z,hz,hzs⟩:=qac.1 hz0;have q:∀(w:World) (a:Option Addr) (n c n' c':Nat),(binOp .eql 35 (.slice a n c) (.slice none n' c')).run Tryz.prog w=.ok (.bool a.isNone) w:=fun w a n c n' c'=>Lib.run_eql_slice_nil w _ _ a n c n' c' Yv;have u:∀w,Sem.run Tryz.prog (underlying 35) w=.ok (TypeDesc.slice 81) w:=run_underlying Yv
 go_enter Tryz.func52,Tryz.ntmps52
 go_wp2_with (at_builtin;refine wpList_append_own _ rfl _ _ 35 rfl w.heap.size 81 i0 z 10 152 Yv hi hz hz1 hz2 hzs (by decide) _ _ _ rfl (World.ownsRow_made w #[] 0 (Nat.le_refl _) (Nat.zero_le _) rfl) a 0 c [] rfl rfl (by intro j u hj;simp at hj) (by intro u hu;cases hu) (by unfold maxLen;omega) (by omega) (by simp) ?_)
 intro v' w1 hown hgrow hnil
 go_wp2
 go_ret
 refine ⟨v',rfl,by simpa using hown,?_⟩;exact ((Below.refl _ w).alloc (Nat.le_refl _) _).grown hgrow (by simp) (by intro k hk;simp [Value.ownBlock] at hk;omega)
theorem zj1 (e:List X)(r:qaW)(t:Bool)(N:Nat)(h:(e::r).length<=1000000):callF ze0 zhQ (N+1) (.fn 52) [.sl t 10 (e::r)] []=some (.bs 0 0 (e::r).length,[.row 10 (e::r)]):=by have:=callF_of (T:=ze0) (ext:=zhQ) (N:=N) (f:=52) (args:=[.sl t 10 (e::r)]) (inb:=[]) (r:=some (.bs 0 0 (0+(e::r).length),[.row 10 ([]++(e::r))])) [(7,.fresh)] [] (pf1 (a:=(e::r).isEmpty=false/\roomOk (0+(e::r).length) 152=true) ⟨rfl,by rw [Nat.zero_add];exact zio h (by decide)⟩) (by kernel_rfl);rw [Nat.zero_add,qaU] at this;exact this
theorem Yu (t:Bool)(es:qaW)(h:es.length<=1000000):FSem Tryz.prog (RCode Tryz.prog gl) 52 [.sl t 10 es] [] (.bs 0 0 es.length) [.row 10 es]:=by
 cases es with
 |cons e r=>exact ((WO 1).fn _ _ _ _ _ (zj1 e r t 0 h)).2
 |nil=>
  intro K C w f A u;have B:f.size=1:=u.1;have m:=u.2 0 _ f[0] rfl (qaC (by omega));have j:f=#[f[0]]:=by
   refine Array.ext (by simp [B]) fun i q y=>?_
   match i,q,y with
   |0,_,_=>rfl
   |i+1,q,_=>omega
  rw [j];generalize f[0]=v at m;have l:Calls Tryz.prog 52 #[v] w fun e n=>∃v',e=.returned v'/\n.ownsRow w.heap.size 81 10 v' 0 []/\Below w.heap.size w n:=by
   generalize E:X.sl t 10 []=x at m;cases m<;>try cases E
   case slNil F=>
    cases F with
    |none=>
     refine (zj0 0 0 w).mono ?_
     rintro e n ⟨rfl,rfl⟩
     exact ⟨_,rfl,World.ownsRow_nil _ _ _ _,Below.refl _ _⟩
    |some a=>exact zgL a 0 w
   case sl=>exact zgL _ _ w
  exact fsem_none (inb:=[]) (args:=[]) A l
end
end Go.Proofs.YtcbeoccmflnejaaGreatDoor
namespace Go.Proofs
section
open Go.Shelf
theorem cgS {α:Type}{a b:α}(h:a=b:=by kernel_rfl):some a=some b:=congrArg some h
def Tryz.lX:Go.Shelf.Ren:=⟨fun|171=>82|243=>130|246=>165|283=>210|284=>211|285=>212|286=>213|129=>208|317=>251|318=>252|319=>253|320=>254|337=>276|338=>277|n=>n,fun|3=>3|9=>9|2=>2|4=>4|171=>275|0=>0|53=>273|37=>227|5=>5|173=>277|212=>317|51=>271|20=>20|213=>318|46=>220|232=>358|233=>359|n=>n,fun|17=>3|18=>4|19=>5|n=>n⟩
theorem Tryz.laysItoa:Go.Proofs.LaysM.n171 Tryz.prog Tryz.lX:={
 mixed:=by kernel_rfl
 f129:=Tryz.func208.trans cgS
 f171:=Tryz.func82.trans cgS
 f243:=Tryz.func130.trans cgS
 f246:=Tryz.func165.trans cgS
 f283:=Tryz.func210.trans cgS
 f284:=Tryz.func211.trans cgS
 f285:=Tryz.func212.trans cgS
 f286:=Tryz.func213.trans cgS
 f317:=Tryz.func251.trans cgS
 f318:=Tryz.func252.trans cgS
 f319:=Tryz.func253.trans cgS
 f320:=Tryz.func254.trans cgS
 f337:=Tryz.func276.trans cgS
 f338:=Tryz.func277.trans cgS
 t0:=Tryz.underlying0
 a0:=Tryz.isAgg0
 z0:=Tryz.sizeOf0
 v0:=Tryz.zeroValue0
 t2:=Tryz.underlying2
 a2:=Tryz.isAgg2
 z2:=Tryz.sizeOf2
 v2:=Tryz.zeroValue2
 t3:=Tryz.underlying3
 a3:=Tryz.isAgg3
 z3:=Tryz.sizeOf3
 v3:=Tryz.zeroValue3
 t4:=Tryz.underlying4
 a4:=Tryz.isAgg4
 z4:=Tryz.sizeOf4
 v4:=Tryz.zeroValue4
 t5:=Tryz.underlying5
 a5:=Tryz.isAgg5
 z5:=Tryz.sizeOf5
 v5:=Tryz.zeroValue5
 t9:=Tryz.underlying9
 a9:=Tryz.isAgg9
 z9:=Tryz.sizeOf9
 v9:=Tryz.zeroValue9
 t20:=Tryz.underlying20
 a20:=Tryz.isAgg20
 z20:=Tryz.sizeOf20
 v20:=Tryz.zeroValue20
 t37:=Tryz.underlying227
 a37:=Tryz.isAgg227
 z37:=Tryz.sizeOf227
 v37:=Tryz.zeroValue227
 t46:=Tryz.underlying220
 a46:=Tryz.isAgg220
 z46:=Tryz.sizeOf220
 v46:=Tryz.zeroValue220
 t51:=Tryz.underlying271
 a51:=Tryz.isAgg271
 z51:=Tryz.sizeOf271
 v51:=Tryz.zeroValue271
 t53:=Tryz.underlying273
 a53:=Tryz.isAgg273
 z53:=Tryz.sizeOf273
 v53:=Tryz.zeroValue273
 t171:=Tryz.underlying275
 a171:=Tryz.isAgg275
 z171:=Tryz.sizeOf275
 v171:=Tryz.zeroValue275
 t173:=Tryz.underlying277
 a173:=Tryz.isAgg277
 z173:=Tryz.sizeOf277
 v173:=Tryz.zeroValue277
 t212:=Tryz.underlying317
 a212:=Tryz.isAgg317
 z212:=Tryz.sizeOf317
 v212:=Tryz.zeroValue317
 t213:=Tryz.underlying318
 a213:=Tryz.isAgg318
 z213:=Tryz.sizeOf318
 t232:=Tryz.underlying358
 a232:=Tryz.isAgg358
 z232:=Tryz.sizeOf358
 v232:=Tryz.zeroValue358
 t233:=Tryz.underlying359
 a233:=Tryz.isAgg359
 z233:=Tryz.sizeOf359
 v233:=Tryz.zeroValue359
 g17:=by kernel_rfl
 g18:=by kernel_rfl
 g19:=by kernel_rfl
 i0:=by kernel_rfl
 i2:=by kernel_rfl
 i3:=by kernel_rfl
 i4:=by kernel_rfl
 i5:=by kernel_rfl
 i9:=by kernel_rfl
 i20:=by kernel_rfl
 i37:=by kernel_rfl
 i46:=by kernel_rfl
 i51:=by kernel_rfl
 i53:=by kernel_rfl
 i171:=by kernel_rfl
 i173:=by kernel_rfl
 i212:=by kernel_rfl
 i232:=by kernel_rfl
 i233:=by kernel_rfl
 m17:=by kernel_rfl
 m18:=by kernel_rfl
 m19:=by kernel_rfl}
def Tryz.jf:Go.Shelf.Ren:=⟨fun|197=>267|260=>290|n=>n,fun|9=>9|21=>21|3=>3|4=>4|5=>5|105=>328|119=>223|0=>0|46=>220|139=>226|138=>225|n=>n,fun|3=>0|4=>1|n=>n⟩
theorem Tryz.zbD:Go.Proofs.Lays.n197 Tryz.prog Tryz.jf:={
 mixed:=by kernel_rfl
 f197:=Tryz.func267.trans cgS
 f260:=Tryz.func290.trans cgS
 t0:=Tryz.underlying0
 a0:=Tryz.isAgg0
 z0:=Tryz.sizeOf0
 v0:=Tryz.zeroValue0
 t3:=Tryz.underlying3
 a3:=Tryz.isAgg3
 z3:=Tryz.sizeOf3
 v3:=Tryz.zeroValue3
 t4:=Tryz.underlying4
 a4:=Tryz.isAgg4
 z4:=Tryz.sizeOf4
 v4:=Tryz.zeroValue4
 t5:=Tryz.underlying5
 a5:=Tryz.isAgg5
 z5:=Tryz.sizeOf5
 v5:=Tryz.zeroValue5
 t9:=Tryz.underlying9
 a9:=Tryz.isAgg9
 z9:=Tryz.sizeOf9
 v9:=Tryz.zeroValue9
 t21:=Tryz.underlying21
 a21:=Tryz.isAgg21
 z21:=Tryz.sizeOf21
 v21:=Tryz.zeroValue21
 t46:=Tryz.underlying220
 a46:=Tryz.isAgg220
 z46:=Tryz.sizeOf220
 v46:=Tryz.zeroValue220
 t105:=Tryz.underlying328
 a105:=Tryz.isAgg328
 z105:=Tryz.sizeOf328
 v105:=Tryz.zeroValue328
 t119:=Tryz.underlying223
 a119:=Tryz.isAgg223
 z119:=Tryz.sizeOf223
 t138:=Tryz.underlying225
 a138:=Tryz.isAgg225
 z138:=Tryz.sizeOf225
 v138:=Tryz.zeroValue225
 t139:=Tryz.underlying226
 a139:=Tryz.isAgg226
 z139:=Tryz.sizeOf226
 v139:=Tryz.zeroValue226
 g3:=by kernel_rfl
 g4:=by kernel_rfl}
def Tryz.wY:Go.Shelf.Ren:=⟨fun|105=>271|212=>293|99=>220|165=>294|166=>295|170=>296|169=>236|263=>305|264=>306|206=>260|240=>268|241=>307|276=>291|277=>313|n=>n,fun|9=>9|3=>3|4=>4|20=>20|0=>0|46=>220|109=>353|5=>5|72=>300|76=>288|51=>271|146=>365|53=>273|148=>367|70=>298|37=>227|75=>287|127=>331|164=>351|80=>302|n=>n,fun|n=>n⟩
theorem Tryz.wZ:Go.Proofs.Lays.n105 Tryz.prog Tryz.wY:={
 mixed:=by kernel_rfl
 f99:=Tryz.func220.trans cgS
 f105:=Tryz.func271.trans cgS
 f165:=Tryz.func294.trans cgS
 f166:=Tryz.func295.trans cgS
 f169:=Tryz.func236.trans cgS
 f170:=Tryz.func296.trans cgS
 f206:=Tryz.func260.trans cgS
 f212:=Tryz.func293.trans cgS
 f240:=Tryz.func268.trans cgS
 f241:=Tryz.func307.trans cgS
 f263:=Tryz.func305.trans cgS
 f264:=Tryz.func306.trans cgS
 f276:=Tryz.func291.trans cgS
 f277:=Tryz.func313.trans cgS
 t0:=Tryz.underlying0
 a0:=Tryz.isAgg0
 z0:=Tryz.sizeOf0
 v0:=Tryz.zeroValue0
 t3:=Tryz.underlying3
 a3:=Tryz.isAgg3
 z3:=Tryz.sizeOf3
 v3:=Tryz.zeroValue3
 t4:=Tryz.underlying4
 a4:=Tryz.isAgg4
 z4:=Tryz.sizeOf4
 v4:=Tryz.zeroValue4
 t5:=Tryz.underlying5
 a5:=Tryz.isAgg5
 z5:=Tryz.sizeOf5
 v5:=Tryz.zeroValue5
 t9:=Tryz.underlying9
 a9:=Tryz.isAgg9
 z9:=Tryz.sizeOf9
 v9:=Tryz.zeroValue9
 t20:=Tryz.underlying20
 a20:=Tryz.isAgg20
 z20:=Tryz.sizeOf20
 v20:=Tryz.zeroValue20
 t37:=Tryz.underlying227
 a37:=Tryz.isAgg227
 z37:=Tryz.sizeOf227
 v37:=Tryz.zeroValue227
 t46:=Tryz.underlying220
 a46:=Tryz.isAgg220
 z46:=Tryz.sizeOf220
 v46:=Tryz.zeroValue220
 t51:=Tryz.underlying271
 a51:=Tryz.isAgg271
 z51:=Tryz.sizeOf271
 v51:=Tryz.zeroValue271
 t53:=Tryz.underlying273
 a53:=Tryz.isAgg273
 z53:=Tryz.sizeOf273
 v53:=Tryz.zeroValue273
 t70:=Tryz.underlying298
 a70:=Tryz.isAgg298
 z70:=Tryz.sizeOf298
 v70:=Tryz.zeroValue298
 t72:=Tryz.underlying300
 a72:=Tryz.isAgg300
 z72:=Tryz.sizeOf300
 v72:=Tryz.zeroValue300
 t75:=Tryz.underlying287
 a75:=Tryz.isAgg287
 z75:=Tryz.sizeOf287
 v75:=Tryz.zeroValue287
 t76:=Tryz.underlying288
 a76:=Tryz.isAgg288
 z76:=Tryz.sizeOf288
 v76:=Tryz.zeroValue288
 t109:=Tryz.underlying353
 a109:=Tryz.isAgg353
 z109:=Tryz.sizeOf353
 v109:=Tryz.zeroValue353
 t127:=Tryz.underlying331
 a127:=Tryz.isAgg331
 z127:=Tryz.sizeOf331
 v127:=Tryz.zeroValue331
 t146:=Tryz.underlying365
 a146:=Tryz.isAgg365
 z146:=Tryz.sizeOf365
 v146:=Tryz.zeroValue365
 t148:=Tryz.underlying367
 a148:=Tryz.isAgg367
 z148:=Tryz.sizeOf367
 v148:=Tryz.zeroValue367
 t164:=Tryz.underlying351
 a164:=Tryz.isAgg351
 z164:=Tryz.sizeOf351
 v164:=Tryz.zeroValue351}
def Tryz.Am:Go.Shelf.Ren:=⟨fun|169=>236|n=>n,fun|70=>298|9=>9|0=>0|72=>300|37=>227|127=>331|3=>3|5=>5|n=>n,fun|n=>n⟩
theorem Tryz.zf4:Go.Proofs.Lays.n169 Tryz.prog Tryz.Am:={
 mixed:=by kernel_rfl
 f169:=Tryz.func236.trans cgS
 t0:=Tryz.underlying0
 a0:=Tryz.isAgg0
 z0:=Tryz.sizeOf0
 v0:=Tryz.zeroValue0
 t3:=Tryz.underlying3
 a3:=Tryz.isAgg3
 z3:=Tryz.sizeOf3
 v3:=Tryz.zeroValue3
 t9:=Tryz.underlying9
 a9:=Tryz.isAgg9
 z9:=Tryz.sizeOf9
 v9:=Tryz.zeroValue9
 t37:=Tryz.underlying227
 a37:=Tryz.isAgg227
 z37:=Tryz.sizeOf227
 v37:=Tryz.zeroValue227
 t70:=Tryz.underlying298
 a70:=Tryz.isAgg298
 z70:=Tryz.sizeOf298
 v70:=Tryz.zeroValue298
 t72:=Tryz.underlying300
 a72:=Tryz.isAgg300
 z72:=Tryz.sizeOf300
 v72:=Tryz.zeroValue300
 t127:=Tryz.underlying331
 a127:=Tryz.isAgg331
 z127:=Tryz.sizeOf331
 v127:=Tryz.zeroValue331}
def Tryz.lY:Go.Shelf.Ren:=⟨fun|172=>222|244=>262|245=>263|247=>284|279=>285|280=>286|281=>287|282=>288|287=>302|316=>303|171=>82|205=>304|321=>311|322=>312|243=>130|246=>165|283=>210|284=>211|285=>212|286=>213|129=>208|317=>251|318=>252|319=>253|320=>254|337=>276|338=>277|n=>n,fun|9=>9|3=>3|75=>287|76=>288|4=>4|5=>5|167=>345|37=>227|0=>0|85=>346|2=>2|168=>348|53=>273|175=>360|46=>220|210=>363|127=>331|145=>374|143=>372|21=>21|171=>275|173=>277|212=>317|51=>271|20=>20|213=>318|232=>358|233=>359|80=>302|n=>n,fun|15=>6|16=>7|17=>3|18=>4|19=>5|n=>n⟩
theorem Tryz.laysAtoi:Go.Proofs.LaysC.n172 Tryz.prog Tryz.lY:={
 mixed:=by kernel_rfl
 f129:=Tryz.func208.trans cgS
 f171:=Tryz.func82.trans cgS
 f172:=Tryz.func222.trans cgS
 f205:=Tryz.func304.trans cgS
 f243:=Tryz.func130.trans cgS
 f244:=Tryz.func262.trans cgS
 f245:=Tryz.func263.trans cgS
 f246:=Tryz.func165.trans cgS
 f247:=Tryz.func284.trans cgS
 f279:=Tryz.func285.trans cgS
 f280:=Tryz.func286.trans cgS
 f281:=Tryz.func287.trans cgS
 f282:=Tryz.func288.trans cgS
 f283:=Tryz.func210.trans cgS
 f284:=Tryz.func211.trans cgS
 f285:=Tryz.func212.trans cgS
 f286:=Tryz.func213.trans cgS
 f287:=Tryz.func302.trans cgS
 f316:=Tryz.func303.trans cgS
 f317:=Tryz.func251.trans cgS
 f318:=Tryz.func252.trans cgS
 f319:=Tryz.func253.trans cgS
 f320:=Tryz.func254.trans cgS
 f321:=Tryz.func311.trans cgS
 f322:=Tryz.func312.trans cgS
 f337:=Tryz.func276.trans cgS
 f338:=Tryz.func277.trans cgS
 t0:=Tryz.underlying0
 a0:=Tryz.isAgg0
 z0:=Tryz.sizeOf0
 v0:=Tryz.zeroValue0
 t2:=Tryz.underlying2
 a2:=Tryz.isAgg2
 z2:=Tryz.sizeOf2
 v2:=Tryz.zeroValue2
 t3:=Tryz.underlying3
 a3:=Tryz.isAgg3
 z3:=Tryz.sizeOf3
 v3:=Tryz.zeroValue3
 t4:=Tryz.underlying4
 a4:=Tryz.isAgg4
 z4:=Tryz.sizeOf4
 v4:=Tryz.zeroValue4
 t5:=Tryz.underlying5
 a5:=Tryz.isAgg5
 z5:=Tryz.sizeOf5
 v5:=Tryz.zeroValue5
 t9:=Tryz.underlying9
 a9:=Tryz.isAgg9
 z9:=Tryz.sizeOf9
 v9:=Tryz.zeroValue9
 t20:=Tryz.underlying20
 a20:=Tryz.isAgg20
 z20:=Tryz.sizeOf20
 v20:=Tryz.zeroValue20
 t21:=Tryz.underlying21
 a21:=Tryz.isAgg21
 z21:=Tryz.sizeOf21
 v21:=Tryz.zeroValue21
 t37:=Tryz.underlying227
 a37:=Tryz.isAgg227
 z37:=Tryz.sizeOf227
 v37:=Tryz.zeroValue227
 t46:=Tryz.underlying220
 a46:=Tryz.isAgg220
 z46:=Tryz.sizeOf220
 v46:=Tryz.zeroValue220
 t51:=Tryz.underlying271
 a51:=Tryz.isAgg271
 z51:=Tryz.sizeOf271
 v51:=Tryz.zeroValue271
 t53:=Tryz.underlying273
 a53:=Tryz.isAgg273
 z53:=Tryz.sizeOf273
 v53:=Tryz.zeroValue273
 t75:=Tryz.underlying287
 a75:=Tryz.isAgg287
 z75:=Tryz.sizeOf287
 v75:=Tryz.zeroValue287
 t76:=Tryz.underlying288
 a76:=Tryz.isAgg288
 z76:=Tryz.sizeOf288
 v76:=Tryz.zeroValue288
 t85:=Tryz.underlying346
 a85:=Tryz.isAgg346
 z85:=Tryz.sizeOf346
 v85:=Tryz.zeroValue346
 t127:=Tryz.underlying331
 a127:=Tryz.isAgg331
 z127:=Tryz.sizeOf331
 v127:=Tryz.zeroValue331
 t143:=Tryz.underlying372
 a143:=Tryz.isAgg372
 z143:=Tryz.sizeOf372
 v143:=Tryz.zeroValue372
 t145:=Tryz.underlying374
 a145:=Tryz.isAgg374
 z145:=Tryz.sizeOf374
 v145:=Tryz.zeroValue374
 t167:=Tryz.underlying345
 a167:=Tryz.isAgg345
 z167:=Tryz.sizeOf345
 v167:=Tryz.zeroValue345
 t168:=Tryz.underlying348
 a168:=Tryz.isAgg348
 z168:=Tryz.sizeOf348
 v168:=Tryz.zeroValue348
 t171:=Tryz.underlying275
 a171:=Tryz.isAgg275
 z171:=Tryz.sizeOf275
 v171:=Tryz.zeroValue275
 t173:=Tryz.underlying277
 a173:=Tryz.isAgg277
 z173:=Tryz.sizeOf277
 v173:=Tryz.zeroValue277
 t175:=Tryz.underlying360
 a175:=Tryz.isAgg360
 z175:=Tryz.sizeOf360
 v175:=Tryz.zeroValue360
 t210:=Tryz.underlying363
 a210:=Tryz.isAgg363
 z210:=Tryz.sizeOf363
 v210:=Tryz.zeroValue363
 t212:=Tryz.underlying317
 a212:=Tryz.isAgg317
 z212:=Tryz.sizeOf317
 v212:=Tryz.zeroValue317
 t213:=Tryz.underlying318
 a213:=Tryz.isAgg318
 z213:=Tryz.sizeOf318
 t232:=Tryz.underlying358
 a232:=Tryz.isAgg358
 z232:=Tryz.sizeOf358
 v232:=Tryz.zeroValue358
 t233:=Tryz.underlying359
 a233:=Tryz.isAgg359
 z233:=Tryz.sizeOf359
 v233:=Tryz.zeroValue359
 g15:=by kernel_rfl
 g16:=by kernel_rfl
 g17:=by kernel_rfl
 g18:=by kernel_rfl
 g19:=by kernel_rfl
 t80:=Tryz.underlying302
 a80:=Tryz.isAgg302
 z80:=Tryz.sizeOf302
 v80:=Tryz.zeroValue302
 i0:=by kernel_rfl
 i2:=by kernel_rfl
 i3:=by kernel_rfl
 i4:=by kernel_rfl
 i5:=by kernel_rfl
 i9:=by kernel_rfl
 i20:=by kernel_rfl
 i21:=by kernel_rfl
 i37:=by kernel_rfl
 i46:=by kernel_rfl
 i51:=by kernel_rfl
 i53:=by kernel_rfl
 i75:=by kernel_rfl
 i76:=by kernel_rfl
 i80:=by kernel_rfl
 i85:=by kernel_rfl
 i127:=by kernel_rfl
 i143:=by kernel_rfl
 i145:=by kernel_rfl
 i167:=by kernel_rfl
 i168:=by kernel_rfl
 i171:=by kernel_rfl
 i173:=by kernel_rfl
 i175:=by kernel_rfl
 i210:=by kernel_rfl
 i212:=by kernel_rfl
 i232:=by kernel_rfl
 i233:=by kernel_rfl
 m15:=by kernel_rfl
 m16:=by kernel_rfl
 m17:=by kernel_rfl
 m18:=by kernel_rfl
 m19:=by kernel_rfl
 c0:=by kernel_rfl
 c2:=by kernel_rfl
 c3:=by kernel_rfl
 c4:=by kernel_rfl
 c5:=by kernel_rfl
 c9:=by kernel_rfl
 c20:=by kernel_rfl
 c21:=by kernel_rfl
 c37:=by kernel_rfl
 c46:=by kernel_rfl
 c51:=by kernel_rfl
 c53:=by kernel_rfl
 c75:=by kernel_rfl
 c76:=by kernel_rfl
 c80:=by kernel_rfl
 c85:=by kernel_rfl
 c127:=by kernel_rfl
 c143:=by kernel_rfl
 c145:=by kernel_rfl
 c167:=by kernel_rfl
 c168:=by kernel_rfl
 c171:=by kernel_rfl
 c173:=by kernel_rfl
 c175:=by kernel_rfl
 c210:=by kernel_rfl
 c212:=by kernel_rfl
 c213:=by kernel_rfl
 c232:=by kernel_rfl
 c233:=by kernel_rfl}
def Tryz.Ak:Go.Shelf.Ren:=⟨fun|168=>235|240=>268|242=>269|276=>291|278=>292|n=>n,fun|70=>298|21=>21|3=>3|75=>287|0=>0|72=>300|37=>227|4=>4|164=>351|51=>271|5=>5|46=>220|80=>302|9=>9|n=>n,fun|n=>n⟩
theorem Tryz.pX:Go.Proofs.Lays.n168 Tryz.prog Tryz.Ak:={
 mixed:=by kernel_rfl
 f168:=Tryz.func235.trans cgS
 f240:=Tryz.func268.trans cgS
 f242:=Tryz.func269.trans cgS
 f276:=Tryz.func291.trans cgS
 f278:=Tryz.func292.trans cgS
 t0:=Tryz.underlying0
 a0:=Tryz.isAgg0
 z0:=Tryz.sizeOf0
 v0:=Tryz.zeroValue0
 t3:=Tryz.underlying3
 a3:=Tryz.isAgg3
 z3:=Tryz.sizeOf3
 v3:=Tryz.zeroValue3
 t4:=Tryz.underlying4
 a4:=Tryz.isAgg4
 z4:=Tryz.sizeOf4
 v4:=Tryz.zeroValue4
 t5:=Tryz.underlying5
 a5:=Tryz.isAgg5
 z5:=Tryz.sizeOf5
 v5:=Tryz.zeroValue5
 t9:=Tryz.underlying9
 a9:=Tryz.isAgg9
 z9:=Tryz.sizeOf9
 v9:=Tryz.zeroValue9
 t20:=Tryz.underlying20
 a20:=Tryz.isAgg20
 z20:=Tryz.sizeOf20
 v20:=Tryz.zeroValue20
 t21:=Tryz.underlying21
 a21:=Tryz.isAgg21
 z21:=Tryz.sizeOf21
 v21:=Tryz.zeroValue21
 t37:=Tryz.underlying227
 a37:=Tryz.isAgg227
 z37:=Tryz.sizeOf227
 v37:=Tryz.zeroValue227
 t46:=Tryz.underlying220
 a46:=Tryz.isAgg220
 z46:=Tryz.sizeOf220
 v46:=Tryz.zeroValue220
 t51:=Tryz.underlying271
 a51:=Tryz.isAgg271
 z51:=Tryz.sizeOf271
 v51:=Tryz.zeroValue271
 t70:=Tryz.underlying298
 a70:=Tryz.isAgg298
 z70:=Tryz.sizeOf298
 v70:=Tryz.zeroValue298
 t72:=Tryz.underlying300
 a72:=Tryz.isAgg300
 z72:=Tryz.sizeOf300
 v72:=Tryz.zeroValue300
 t75:=Tryz.underlying287
 a75:=Tryz.isAgg287
 z75:=Tryz.sizeOf287
 v75:=Tryz.zeroValue287
 t164:=Tryz.underlying351
 a164:=Tryz.isAgg351
 z164:=Tryz.sizeOf351
 v164:=Tryz.zeroValue351}
def Tryz.Iq:Go.Shelf.Ren:=⟨fun|219=>283|217=>300|225=>282|224=>281|267=>301|266=>309|314=>310|n=>n,fun|9=>9|3=>3|4=>4|5=>5|46=>220|146=>365|51=>271|n=>n,fun|1=>2|n=>n⟩
theorem Tryz.zbC:Go.Proofs.Lays.n219 Tryz.prog Tryz.Iq:={
 mixed:=by kernel_rfl
 f217:=Tryz.func300.trans cgS
 f219:=Tryz.func283.trans cgS
 f224:=Tryz.func281.trans cgS
 f225:=Tryz.func282.trans cgS
 f266:=Tryz.func309.trans cgS
 f267:=Tryz.func301.trans cgS
 f314:=Tryz.func310.trans cgS
 t3:=Tryz.underlying3
 a3:=Tryz.isAgg3
 z3:=Tryz.sizeOf3
 v3:=Tryz.zeroValue3
 t4:=Tryz.underlying4
 a4:=Tryz.isAgg4
 z4:=Tryz.sizeOf4
 v4:=Tryz.zeroValue4
 t5:=Tryz.underlying5
 a5:=Tryz.isAgg5
 z5:=Tryz.sizeOf5
 v5:=Tryz.zeroValue5
 t9:=Tryz.underlying9
 a9:=Tryz.isAgg9
 z9:=Tryz.sizeOf9
 v9:=Tryz.zeroValue9
 t46:=Tryz.underlying220
 a46:=Tryz.isAgg220
 z46:=Tryz.sizeOf220
 v46:=Tryz.zeroValue220
 t51:=Tryz.underlying271
 a51:=Tryz.isAgg271
 z51:=Tryz.sizeOf271
 v51:=Tryz.zeroValue271
 t146:=Tryz.underlying365
 a146:=Tryz.isAgg365
 z146:=Tryz.sizeOf365
 v146:=Tryz.zeroValue365
 g1:=by kernel_rfl}
def Tryz.xg:Go.Shelf.Ren:=⟨fun|153=>219|152=>256|226=>257|227=>258|228=>259|137=>279|119=>280|224=>281|225=>282|217=>300|266=>309|n=>n,fun|9=>9|3=>3|4=>4|5=>5|21=>21|117=>322|116=>321|0=>0|46=>220|124=>344|n=>n,fun|n=>n⟩
theorem Tryz.Ir:Go.Proofs.Lays.n153 Tryz.prog Tryz.xg:={
 mixed:=by kernel_rfl
 f119:=Tryz.func280.trans cgS
 f137:=Tryz.func279.trans cgS
 f152:=Tryz.func256.trans cgS
 f153:=Tryz.func219.trans cgS
 f217:=Tryz.func300.trans cgS
 f224:=Tryz.func281.trans cgS
 f225:=Tryz.func282.trans cgS
 f226:=Tryz.func257.trans cgS
 f227:=Tryz.func258.trans cgS
 f228:=Tryz.func259.trans cgS
 f266:=Tryz.func309.trans cgS
 t0:=Tryz.underlying0
 a0:=Tryz.isAgg0
 z0:=Tryz.sizeOf0
 v0:=Tryz.zeroValue0
 t3:=Tryz.underlying3
 a3:=Tryz.isAgg3
 z3:=Tryz.sizeOf3
 v3:=Tryz.zeroValue3
 t4:=Tryz.underlying4
 a4:=Tryz.isAgg4
 z4:=Tryz.sizeOf4
 v4:=Tryz.zeroValue4
 t5:=Tryz.underlying5
 a5:=Tryz.isAgg5
 z5:=Tryz.sizeOf5
 v5:=Tryz.zeroValue5
 t9:=Tryz.underlying9
 a9:=Tryz.isAgg9
 z9:=Tryz.sizeOf9
 v9:=Tryz.zeroValue9
 t21:=Tryz.underlying21
 a21:=Tryz.isAgg21
 z21:=Tryz.sizeOf21
 v21:=Tryz.zeroValue21
 t46:=Tryz.underlying220
 a46:=Tryz.isAgg220
 z46:=Tryz.sizeOf220
 v46:=Tryz.zeroValue220
 t116:=Tryz.underlying321
 a116:=Tryz.isAgg321
 z116:=Tryz.sizeOf321
 t117:=Tryz.underlying322
 a117:=Tryz.isAgg322
 z117:=Tryz.sizeOf322
 v117:=Tryz.zeroValue322
 t124:=Tryz.underlying344
 a124:=Tryz.isAgg344
 z124:=Tryz.sizeOf344
 v124:=Tryz.zeroValue344}
end
section
open Go.Shelf Go.RowKit Go.Sort Go.Lib
variable {P:Program} {ρ:Ren}
def GY (g:Nat)(w:World):Prop:=∀i,i<20->w.cell? ⟨g,i,none⟩=some (.int .u64 ((10^i:Nat):Int))
theorem GY.alloc {g:Nat}{w:World}(h:GY g w)(o:Obj):GY g (w.alloc o):=fun i a=>by
 have:=h i a;have f:g≠w.heap.size:=fun e=>by simp_all[World.cell?]
 unfold World.cell? at this ⊢;unfold World.alloc<;>simp_all[Array.getElem?_push]
set_option maxHeartbeats 2000000 in
set_option maxRecDepth 100000 in
theorem ZV.internal_strconv_numDigits (L:LaysM.n284 P ρ)(u:Nat)(h1:1<=u)(h2:u<18446744073709551616)(w:World)
  (htab:GY (ρ.g 17) w):
  Calls P (ρ.f 284) #[.int .u64 u] w fun e w'=>e=.returned (.int .i64 (Lib.nDigits u))/\w'=w:=by
 have mixed:=L.mixed;have t53:=L.t53;have a53:=L.a53;have z53:=L.z53;have v53:=L.v53;have t3:=L.t3;have a3:=L.a3;have z3:=L.z3;have v3:=L.v3;have t212:=L.t212;have a212:=L.a212;have z212:=L.z212;have v212:=L.v212;have t0:=L.t0;have a0:=L.a0;have z0:=L.z0;have v0:=L.v0;have t4:=L.t4;have a4:=L.a4;have z4:=L.z4;have v4:=L.v4;have e129:∀args w,(callFunc (ρ.f 129) args).run P w=.ok (.enter (ρ.f 129) args) w:=enters_of L.f129 (by kernel_rfl) rfl;have e317:∀args w,(callFunc (ρ.f 317) args).run P w=.ok (.enter (ρ.f 317) args) w:=enters_of L.f317 (by kernel_rfl) rfl;have e318:∀args w,(callFunc (ρ.f 318) args).run P w=.ok (.enter (ρ.f 318) args) w:=enters_of L.f318 (by kernel_rfl) rfl;obtain ⟨hnd,h19⟩:=Lib.numDigits_eq u h1 h2;have hL:=Lib.bitLen_le u 64 (Nat.le_refl _) h2;have hcell:w.cell? ⟨(ρ.g 17),Lib.l10 (Lib.bitLen u),none⟩=some (.int .u64 ((10^Lib.l10 (Lib.bitLen u):Nat):Int)):=by exact htab _ (by omega)
 have hto:((u:Int)).toNat=u:=by omega
 generalize hq:Lib.l10 (Lib.bitLen u)=q at hnd h19 hcell;generalize hT:10^q=T at hnd hcell;have h20:q<20:=by omega
 have Hnd:=Lib.hid hnd;clear hnd htab
 go_enter L.f284,Body.n284_ntmps ρ
 go_wp2_with (first
  |(go_at_fn (ρ.f 129);refine (Any.bits_Len64 {L with} _ _ (by omega) (by omega)).mono ?_;rintro e w' ⟨rfl,rfl⟩)
  |(go_at_fn (ρ.f 317);refine (Any.internal_strconv_log10Pow2 {L with} _ (by grind) _).mono ?_;rintro e w' ⟨rfl,rfl⟩)
  |(go_at_fn (ρ.f 318);refine (Any.internal_strconv_bool2_int {L with} _ _).mono ?_;rintro e w' ⟨rfl,rfl⟩))
 all_goals go_ret
 all_goals (
  refine ⟨?_,rfl⟩;have hnd:=Hnd.out
  congr 2
  split at hnd<;>simp_all<;>omega)
set_option maxHeartbeats 6400000 in
set_option maxRecDepth 100000 in
theorem ZV.internal_strconv_FormatInt_10 (L:LaysM.n246 P ρ)(n:Int)(h0:-9223372036854775808<=n)(h1:n<=9223372036854775807)(w:World)
  (htab:GY (ρ.g 17) w):
  Calls P (ρ.f 246) #[.int .i64 n,.int .i64 10] w fun e w'=>e=.returned (.string ⟨(Lib.itoa n).toArray⟩)/\∃k os,w'=grow (w.drewN k) os:=by
 have mixed:=L.mixed;have t2:=L.t2;have a2:=L.a2;have z2:=L.z2;have v2:=L.v2;have t3:=L.t3;have a3:=L.a3;have z3:=L.z3;have v3:=L.v3;have t9:=L.t9;have a9:=L.a9;have z9:=L.z9;have v9:=L.v9;have t4:=L.t4;have a4:=L.a4;have z4:=L.z4;have v4:=L.v4;have t171:=L.t171;have a171:=L.a171;have z171:=L.z171;have v171:=L.v171;have t0:=L.t0;have a0:=L.a0;have z0:=L.z0;have v0:=L.v0;have t53:=L.t53;have a53:=L.a53;have z53:=L.z53;have v53:=L.v53;have t37:=L.t37;have a37:=L.a37;have z37:=L.z37;have v37:=L.v37;have t5:=L.t5;have a5:=L.a5;have z5:=L.z5;have v5:=L.v5;have t173:=L.t173;have a173:=L.a173;have z173:=L.z173;have v173:=L.v173;have e283:∀args w,(callFunc (ρ.f 283) args).run P w=.ok (.enter (ρ.f 283) args) w:=enters_of L.f283 (by kernel_rfl) rfl;have e284:∀args w,(callFunc (ρ.f 284) args).run P w=.ok (.enter (ρ.f 284) args) w:=enters_of L.f284 (by kernel_rfl) rfl;have e285:∀args w,(callFunc (ρ.f 285) args).run P w=.ok (.enter (ρ.f 285) args) w:=enters_of L.f285 (by kernel_rfl) rfl;by_cases hs:0<=n/\n<100
 ·
  obtain ⟨i,rfl⟩:∃i:Nat,n=i:=⟨n.toNat,by omega⟩;have hi:i<100:=by omega
  go_enter L.f246,Body.n246_ntmps ρ
  go_wp2_with (go_at_fn (ρ.f 283);refine (Any.internal_strconv_small {L with} i hi _).mono ?_;rintro e w' ⟨rfl,rfl⟩)
  go_ret
  refine ⟨?_,0,#[],by simp [World.drewN_zero]⟩;rw [Lib.itoa_nonneg];rfl
 by_cases hneg:n<0
 ·obtain ⟨u,rfl⟩:∃u:Nat,n=-(u:Int):=⟨n.natAbs,by omega⟩;have hu1:1<=u:=by omega
  have hu64:u<18446744073709551616:=by omega
  have hnd20:Lib.nDigits u<=20:=by have:=Lib.numDigits_eq u hu1 hu64;split at this<;>omega
  have hwr:IntKind.u64.wrap (-IntKind.u64.wrap (-(u:Int)))=(u:Int):=by rw [IntKind.wrap_u64,IntKind.wrap_u64];omega
  have hb3:Lib.nDigits u<=23:=by omega
  have hal:P.arrayLen (ρ.t 171)=24:=by simp [Program.arrayLen,L.t171]
  have hsl1:∀W,(Instr.sliceAt (ρ.t 171) (.pointer (some ⟨w.heap.size,0,none⟩)) (some (.int .i64 1)) (some (.int .i64 (1+(Lib.nDigits u:Int)))) none).run P W=.ok (.slice (some ⟨w.heap.size,1,none⟩) (Lib.nDigits u) 23) W:=fun W=>by
   rw [run_sliceAt_array_lh W (ρ.t 171) ⟨w.heap.size,0,none⟩ (by grind[Program.elem]) .i64 .i64 1 (1+(Lib.nDigits u:Int)) (by omega) (by omega) (by grind)]
   go_simp
   omega
  have hH0:=Lib.holds_zero w (ρ.t 171) (Lib.nDigits u) (by omega);have hfmt:=Any.internal_strconv_formatBase10 {L with} w.heap.size 1 23 u (Array.replicate (Lib.nDigits u) 0) (w.alloc (.cells Lib.zeros24 (ρ.t 171))) hH0 (by grind[Lib.lt_pow_nDigits]) hu64 (by grind);rw [Array.size_replicate] at hfmt;have HH0:=Lib.hid hH0;clear hH0 hal
  go_enter L.f246,Body.n246_ntmps ρ
  go_wp2_with (first
   |(go_at_fn (ρ.f 284);refine (ZV.internal_strconv_numDigits {L with} u hu1 hu64 _ (htab.alloc _)).mono ?_;rintro e w' ⟨rfl,rfl⟩))
  go_at_fn (ρ.f 285)
  refine hfmt.mono ?_
  rintro e w' ⟨rfl,k,v',dk,rfl,hF⟩
  have hc0:((putRow (fun (b:UInt8)=>Value.int .u8 (b.toNat:Int)) (w.alloc (.cells Lib.zeros24 (ρ.t 171))) w.heap.size 1 dk).drewN k).cell? ⟨w.heap.size,0,none⟩=some (.int .u8 0):=by rw [World.cell?_drewN,cell?_putRow_other _ _ _ _ _ _ (Or.inr (Or.inl (Nat.zero_lt_one))),World.cell?_alloc_new];exact Lib.zeros24_at 0 (by omega)
  have hf0:((putRow (fun (b:UInt8)=>Value.int .u8 (b.toNat:Int)) (w.alloc (.cells Lib.zeros24 (ρ.t 171))) w.heap.size 1 dk).drewN k).frozen? ⟨w.heap.size,0,none⟩=false:=by rw [World.frozen?_drewN,frozen?_putRow];exact World.frozen?_alloc_new _ _ _ _
  have hal:P.arrayLen (ρ.t 171)=24:=by simp [Program.arrayLen,L.t171]
  have hsl2:∀W,(Instr.sliceAt (ρ.t 171) (.pointer (some ⟨w.heap.size,0,none⟩)) none (some (.int .i64 (1+(Lib.nDigits u:Int)))) none).run P W=.ok (.slice (some ⟨w.heap.size,0,none⟩) (1+Lib.nDigits u) 24) W:=fun W=>by
   rw [run_sliceAt_array_h W (ρ.t 171) ⟨w.heap.size,0,none⟩ (by simp_all[Program.elem]) .i64 (1+(Lib.nDigits u:Int)) (by omega) (by omega)]
   go_simp
   omega
  clear hal;have hcv:(convert (ρ.t 37) (ρ.t 9) (.slice (some ⟨w.heap.size,0,none⟩) (1+Lib.nDigits u) 24)).run P (((putRow (fun (b:UInt8)=>Value.int .u8 (b.toNat:Int)) (w.alloc (.cells Lib.zeros24 (ρ.t 171))) w.heap.size 1 dk).drewN k).setCell ⟨w.heap.size,0,none⟩ (.int .u8 45))=.ok (.string ⟨(45::Lib.decDigits u).toArray⟩) (((putRow (fun (b:UInt8)=>Value.int .u8 (b.toNat:Int)) (w.alloc (.cells Lib.zeros24 (ρ.t 171))) w.heap.size 1 dk).drewN k).setCell ⟨w.heap.size,0,none⟩ (.int .u8 45)):=by
   have h:=run_convert_bytes_back (P:=P) (((putRow (fun (b:UInt8)=>Value.int .u8 (b.toNat:Int)) (w.alloc (.cells Lib.zeros24 (ρ.t 171))) w.heap.size 1 dk).drewN k).setCell ⟨w.heap.size,0,none⟩ (.int .u8 45)) (ρ.t 37) (ρ.t 9) (ρ.t 5) ⟨w.heap.size,0,none⟩ 24 (45::Lib.decDigits u) L.t37 L.t5 L.t9 (fun j hj=>by
    rw [Lib.add_plain];cases j with
    |zero=>simp_all[World.cell?_setCell_same]
    |succ i=>
     have hi:i<(Lib.decDigits u).length:=by simpa using hj
     rw [World.cell?_setCell_other _ _ _ _ (by simp),List.getElem_cons_succ,Lib.row_is_numeral hF i hi,World.cell?_drewN,show 0+(i+1)=1+i by omega];exact cell?_putRow (fun (b:UInt8)=>Value.int .u8 (b.toNat:Int)) _ w.heap.size 1 _ dk HH0.out (by rw [hF.size,Array.size_replicate]) i (by rw [hF.size]<;>simp_all[Lib.decDigits_length]))
   rw [List.length_cons,Lib.decDigits_length,Nat.add_comm] at h;exact h
  go_wp2
  go_ret
  obtain ⟨os,eo⟩:=Lib.fin_neg w (.cells Lib.zeros24 (ρ.t 171)) dk k (.int .u8 45);refine ⟨?_,k,os,eo⟩;rw [Lib.itoa_neg u hu1];rfl
 obtain ⟨u,rfl⟩:∃u:Nat,n=u:=⟨n.toNat,by omega⟩;have hu1:1<=u:=by omega
 have hu64:u<18446744073709551616:=by omega
 have hnd20:Lib.nDigits u<=20:=by have:=Lib.numDigits_eq u hu1 hu64;split at this<;>omega
 have hb3:Lib.nDigits u<=23:=by omega
 have hal:P.arrayLen (ρ.t 171)=24:=by simp [Program.arrayLen,L.t171]
 have hsl1:∀W,(Instr.sliceAt (ρ.t 171) (.pointer (some ⟨w.heap.size,0,none⟩)) (some (.int .i64 1)) (some (.int .i64 (1+(Lib.nDigits u:Int)))) none).run P W=.ok (.slice (some ⟨w.heap.size,1,none⟩) (Lib.nDigits u) 23) W:=fun W=>by
  rw [run_sliceAt_array_lh W (ρ.t 171) ⟨w.heap.size,0,none⟩ (by grind[Program.elem]) .i64 .i64 1 (1+(Lib.nDigits u:Int)) (by omega) (by omega) (by grind)]
  go_simp
  omega
 have hH0:=Lib.holds_zero w (ρ.t 171) (Lib.nDigits u) (by omega);have hfmt:=Any.internal_strconv_formatBase10 {L with} w.heap.size 1 23 u (Array.replicate (Lib.nDigits u) 0) (w.alloc (.cells Lib.zeros24 (ρ.t 171))) hH0 (by grind[Lib.lt_pow_nDigits]) hu64 (by grind);rw [Array.size_replicate] at hfmt;have HH0:=Lib.hid hH0;clear hH0 hal
 go_enter L.f246,Body.n246_ntmps ρ
 go_wp2_with (first
  |(go_at_fn (ρ.f 284);refine (ZV.internal_strconv_numDigits {L with} u hu1 hu64 _ (htab.alloc _)).mono ?_;rintro e w' ⟨rfl,rfl⟩))
 go_at_fn (ρ.f 285)
 refine hfmt.mono ?_
 rintro e w' ⟨rfl,k,v',dk,rfl,hF⟩
 have hcv:(convert (ρ.t 37) (ρ.t 9) (.slice (some ⟨w.heap.size,1,none⟩) (Lib.nDigits u) 23)).run P ((putRow (fun (b:UInt8)=>Value.int .u8 (b.toNat:Int)) (w.alloc (.cells Lib.zeros24 (ρ.t 171))) w.heap.size 1 dk).drewN k)=.ok (.string ⟨(Lib.decDigits u).toArray⟩) ((putRow (fun (b:UInt8)=>Value.int .u8 (b.toNat:Int)) (w.alloc (.cells Lib.zeros24 (ρ.t 171))) w.heap.size 1 dk).drewN k):=by have h:=run_convert_bytes_back (P:=P) ((putRow (fun (b:UInt8)=>Value.int .u8 (b.toNat:Int)) (w.alloc (.cells Lib.zeros24 (ρ.t 171))) w.heap.size 1 dk).drewN k) (ρ.t 37) (ρ.t 9) (ρ.t 5) ⟨w.heap.size,1,none⟩ 23 (Lib.decDigits u) L.t37 L.t5 L.t9 (fun j hj=>by rw [Lib.row_is_numeral hF j hj,Lib.add_plain,World.cell?_drewN];exact cell?_putRow (fun (b:UInt8)=>Value.int .u8 (b.toNat:Int)) _ w.heap.size 1 _ dk HH0.out (by rw [hF.size,Array.size_replicate]) j (by rw [hF.size]<;>simp_all[Lib.decDigits_length]));rw [Lib.decDigits_length] at h;exact h
 go_wp2
 go_ret
 obtain ⟨os,eo⟩:=Lib.fin_pos w (.cells Lib.zeros24 (ρ.t 171)) dk k;refine ⟨?_,k,os,eo⟩;rw [Lib.itoa_nonneg];rfl
set_option maxRecDepth 100000 in
theorem ZV.internal_strconv_Itoa (L:LaysM.n243 P ρ)(n:Int)(h0:-9223372036854775808<=n)(h1:n<=9223372036854775807)(w:World)
  (htab:GY (ρ.g 17) w):
  Calls P (ρ.f 243) #[.int .i64 n] w fun e w'=>e=.returned (.string ⟨(Lib.itoa n).toArray⟩)/\∃k os,w'=grow (w.drewN k) os:=by
 have mixed:=L.mixed;have t3:=L.t3;have a3:=L.a3;have z3:=L.z3;have v3:=L.v3;have t9:=L.t9;have a9:=L.a9;have z9:=L.z9;have v9:=L.v9;have t2:=L.t2;have a2:=L.a2;have z2:=L.z2;have v2:=L.v2;have e246:∀args w,(callFunc (ρ.f 246) args).run P w=.ok (.enter (ρ.f 246) args) w:=enters_of L.f246 (by kernel_rfl) rfl
 go_enter L.f243,Body.n243_ntmps ρ
 go_wp2_with (go_at_fn (ρ.f 246);refine (ZV.internal_strconv_FormatInt_10 {L with} n h0 h1 _ htab).mono ?_;rintro e w' ⟨rfl,k,os,rfl⟩)
 go_ret
 exact ⟨rfl,k,os,rfl⟩
set_option maxRecDepth 100000 in
theorem ZV.strconv_Itoa (L:LaysM.n171 P ρ)(n:Int)(h0:-9223372036854775808<=n)(h1:n<=9223372036854775807)(w:World)
  (htab:GY (ρ.g 17) w):
  Calls P (ρ.f 171) #[.int .i64 n] w fun e w'=>e=.returned (.string ⟨(Lib.itoa n).toArray⟩)/\∃k os,w'=grow (w.drewN k) os:=by
 have mixed:=L.mixed;have t3:=L.t3;have a3:=L.a3;have z3:=L.z3;have v3:=L.v3;have t9:=L.t9;have a9:=L.a9;have z9:=L.z9;have v9:=L.v9;have e243:∀args w,(callFunc (ρ.f 243) args).run P w=.ok (.enter (ρ.f 243) args) w:=enters_of L.f243 (by kernel_rfl) rfl
 go_enter L.f171,Body.n171_ntmps ρ
 go_wp2_with (go_at_fn (ρ.f 243);refine (ZV.internal_strconv_Itoa {L with} n h0 h1 _ htab).mono ?_;rintro e w' ⟨rfl,k,os,rfl⟩)
 go_ret
 exact ⟨rfl,k,os,rfl⟩
end
end Go.Proofs
