/-.-/
import Derived.Deep.RegionLaw
import Derived.Lib.SliceRun
import Derived.Sort.WalkB12
import Derived.Sort.EncStr
import Derived.Shelf.RegionOpenPlain
import Derived.Laws.IdiomStrings
import Derived.Test.YtonnphbfclaigaaGreatDoorP17
set_option linter.all false
namespace Go.Proofs.YtonnphbfclaigaaGreatDoor
open Go.Em Go.RowKit Go.Lib
variable {rows:qbI}{cs vs:List Value}{i k n:Nat}{v:Value}
section
variable {P:Program} {R:CodeRel} {K:Kn}
theorem post_move {w w':World}{c0 c':CB}{sz:Nat}{new:qbI}{res:X}(hI:Inv P R K [c0] [.row sz rows] w)(hf:FrameOk c0.owns w w')(hown:∀b o,c'.owns b o->c0.owns b o\/w.heap.size<=b)
  (hB:BoxOk P R K ([c0]++[c']) w' (.row sz new) c') (hres:Rep K ([c0]++[c']) res v):Post P R K [c0] [.row sz rows] w res [.dead,.row sz new] (.returned v) w':=by
 have hdead:∀b o,¬Owns [c0] [Bx.dead] b o:=by
  rintro b o ⟨i,c,B,h1,h2,h3,h4⟩
  cases i with
  |zero=>simp at h2;subst h2;simp [Bx.live] at h3
  |succ i=>simp at h2
 have hin:∀b o,c0.owns b o->Owns [c0] [Bx.row sz rows] b o:=fun b o h=>⟨0,c0,.row sz rows,rfl,rfl,rfl,h⟩;have hk:=hI.kill 0;have hk':Inv P R K [c0] [.dead] w':=Inv.frame hk hf (fun b o v e ho=>by have:=hI.apart b o (hin b o ho);rw [this] at e;cases e) (fun b o ho=>absurd ho (hdead b o));refine ⟨v,K,[c'],rfl,⟨hk'.push hB (fun b o ho=>?_) (fun b o _=>hdead b o),hres,KLe.refl _,fun b o u e=>.inl e,fun b o ho=>?_,hf.mono fun b o _ h=>hin b o h,fun i B e hl=>?_⟩⟩
 ·rcases hown b o ho with h|h;·exact hI.apart b o (hin b o h)
  cases hk:K b o with
  |none=>rfl
  |some u=>have:=hI.known_lt hk;omega
 ·obtain ⟨i,c,B,h1,h2,h3,h4⟩:=ho
  match i,h1,h2 with
  |0,h1,h2=>simp at h2;subst h2;simp [Bx.live] at h3
  |1,h1,h2=>
   simp at h1;subst h1;rcases hown b o h4 with h|h;·exact .inl (hin b o h)
   exact .inr h
  |i+2,h1,h2=>simp at h2
 cases i with
 |zero=>simp at e;subst e;cases hl
 |succ i=>simp at e
theorem splice_get (l vs:List Value)(o q:Nat)(h:o+vs.length<=l.length):(l.take o++vs++l.drop (o+vs.length)).toArray[q]?=if q<o then l[q]? else if q<o+vs.length then vs[q-o]? else l[q]?:=by
 have hT:(l.take o).length=o:=by rw [qaN];omega
 rw [List.getElem?_toArray];by_cases h5:q<o;·rw [if_pos h5,qbj,qa6 (by omega),qbb,if_pos h5]
 rw [if_neg h5,qbj,qbf (by omega),hT];by_cases h6:q<o+vs.length;·rw [if_pos h6,qa6 (by omega)]
 rw [if_neg h6,qbf (by omega),qa8]
 congr 1;omega
theorem setCells_row (W:World)(b o:Nat)(arr:Array Value)(el:TypeId)(vs:List Value)(hb:W.heap[b]?=some (.cells arr el (0,0)))(hl:o+vs.length<=arr.size)(h1:∀v∈vs,v.oneCell'=true):
  W.setCells b o vs=W.setRow b (arr.toList.take o++vs++arr.toList.drop (o+vs.length)).toArray:=by
 have hc:∀j,j<vs.length->(W.cell? ⟨b,o+j,none⟩).isSome=true:=fun j hj=>by simp only [World.cell?,hb];rw [qa7 (by omega)];rfl
 have hf:∀j,j<vs.length->W.frozen? ⟨b,o+j,none⟩=false:=fun j hj=>by simp [World.frozen?,hb]
 have e1:=run_storeCells_cells (P:=Tryz.prog) b o vs 0 W (by simpa using hc) (by simpa using hf) h1;have e2:=run_storeCells_at Tryz.prog b o el vs 0 arr W hb (by omega) h1;rw [e1] at e2;simp only [Nat.add_zero] at e2;injection e2
theorem ins_flat {K:Kn}{x:List X}(hf:Flat K 10 rows cs)(hv:Flat K 10 [x] vs)(i:Nat):Flat K 10 (rows.take i++[x]++rows.drop i) (cs.take (i*10)++vs++cs.drop (i*10)):=
 ((hf.take i).append hv).append (hf.drop i)
theorem ins_get (hcl:cs.length=n*10)(hvl:vs.length=10)(hi:i<=n)(h:(cs.take (i*10)++vs++cs.drop (i*10))[k]?=some v):
  (k<i*10/\cs[k]?=some v)\/(i*10<=k/\k<(i+1)*10/\vs[k-i*10]?=some v)\/((i+1)*10<=k/\k<(n+1)*10/\cs[k-10]?=some v):=by
 have hT:(cs.take (i*10)).length=i*10:=by rw [qaN];omega
 by_cases h1:k<i*10;·rw [qbj,qa6 (by omega),qbb,if_pos h1] at h;exact .inl ⟨h1,h⟩
 rw [qbj,qbf (by omega),hT] at h;by_cases h2:k<(i+1)*10;·rw [qa6 (by omega)] at h;exact .inr (.inl ⟨by omega,h2,h⟩)
 rw [qbf (by omega),qa8] at h;have e:i*10+(k-i*10-vs.length)=k-10:=by omega
 rw [e] at h;have:=(qaY.1 h).1;exact .inr (.inr ⟨by omega,by omega,h⟩)
set_option maxRecDepth 100000 in
theorem ins_sem {R:CodeRel}(n i:Nat)(t:Bool)(x:List X)(rows:qbI)(hi:i<=n)(hn:n=rows.length)(hn2:n<=2000000):
  FSem Tryz.prog R 258 [.bs 0 0 n,.v (.int .i64 (Int.ofNat i)),.sl t 10 [x]] [.row 10 rows] (.bs 1 0 (n+1)) [.dead,.row 10 (rows.take i++[x]++rows.drop i)]:=by
 intro K C w cargs hI ha;have hs:cargs.size=3:=ha.1;have r0:=ha.2 0 _ cargs[0] rfl (qa7 (by omega));have r1:=ha.2 1 _ cargs[1] rfl (qa7 (by omega));have r2:=ha.2 2 _ cargs[2] rfl (qa7 (by omega));have hca:cargs=#[cargs[0],cargs[1],cargs[2]]:=by
  refine Array.ext (by simp [hs]) fun j h1 h2=>?_
  match j,h1,h2 with
  |0,_,_=>rfl
  |1,_,_=>rfl
  |2,_,_=>rfl
  |j+3,h1,_=>omega
 rw [hca];generalize cargs[0]=v0 at r0;generalize cargs[1]=v1 at r1;generalize cargs[2]=v2 at r2;obtain rfl:=rep_v r1;obtain ⟨c0,hC⟩:∃c0,C=[c0]:=by
  have:=hI.size
  match C,this with
  |[c0],_=>exact ⟨c0,rfl⟩
 subst hC;obtain ⟨vb,vo,c2,rfl⟩:∃vb vo c2,v2=.slice (some ⟨vb,vo,none⟩) 1 c2:=by
  generalize hx:X.sl t 10 [x]=y at r2;cases r2<;>try cases hx
  exact ⟨_,_,_,rfl⟩
 obtain ⟨vs,hv,hvK⟩:=r2.flat;have hvl:vs.length=10:=by simpa using hv.len
 have hvs:∀j v,vs[j]?=some v->w.cell? ⟨vb,vo+j,none⟩=some v:=fun j v h=>hI.known _ _ _ (hvK j v h);have h1v:=hv.oneCell;obtain ⟨tA,kA,hsa,hkA⟩:∃tA kA,w.shape? vb=some (tA,kA)/\kA≠0:=by
  have h0:=hvs 0 _ (qa3 (by omega));unfold World.cell? at h0;split at h0;next arr el fr hh=>refine ⟨el,arr.size,by simp [World.shape?,hh],fun e=>?_⟩;have:=(qbA.1 h0).1;omega
  cases h0
 have hvfc:∀w':World,w'.heap=w.heap->(Builtin.firstCells 10 1 (.slice (some ⟨vb,vo,none⟩) 1 c2)).run Tryz.prog w'=.ok vs.toArray w':=fun w' hw=>by refine run_firstCells_some w' 10 1 ⟨vb,vo,none⟩ 1 c2 vs (by omega) (fun j u hu=>?_);rw [Addr.add_lit];have:=hvs j u hu;simp only [World.cell?,hw] at this ⊢;exact this
 have hz78:(zeroP Tryz.prog 77).isSome=true:=by kernel_rfl
 obtain ⟨z78,hz78⟩:=Option.isSome_iff_exists.1 hz78;have hs78:sizeP Tryz.prog 77=some 10:=by kernel_rfl
 have hb78:bytesP Tryz.prog 77=some 152:=by kernel_rfl
 have endGrow:∀(ob:Option Addr) (c:Nat) (olds:List Value),i=n->n<=c->c<n+1->(ob=none->n=0/\c=0)->Flat K 10 rows olds->(∀w':World,w'.heap=w.heap->(Builtin.firstCells 10 n (.slice ob n c)).run Tryz.prog w'=.ok olds.toArray w')->
   Calls Tryz.prog 258 #[.slice ob n c,.int .i64 (Int.ofNat i),.slice (some ⟨vb,vo,none⟩) 1 c2] w (Post Tryz.prog R K [c0] [.row 10 rows] w (.bs 1 0 (n+1)) [.dead,.row 10 (rows.take i++[x]++rows.drop i)]):=by
  intro ob c olds hin hnc hcn hnil hfo hfco;subst hin;have hex:∃rest:List Value,(∀ty,(Builtin.append_ #[22,22] ty #[.slice ob i c,.slice (some ⟨vb,vo,none⟩) 1 c2]).run Tryz.prog w=.ok (.slice (some ⟨w.heap.size,0,none⟩) (i+1) (grownCap w (i+1) c 77)) (w.drew.alloc (.cells (olds++vs++rest).toArray 77)))/\rest.length=(grownCap w (i+1) c 77-(i+1))*10:=by obtain ⟨rest,h1,h2⟩:=run_app_grow (P:=Tryz.prog) (w:=w) (ty:=0) (ob:=ob) (oc:=some ⟨vb,vo,none⟩) (n:=i) (cap:=c) (m:=1) (c:=c2) und35 und35 hs78 hb78 hz78 olds vs hfco hvfc hcn (by omega) (by omega) (by omega);exact ⟨rest,fun ty=>h1,h2⟩
  obtain ⟨rest,hrun,hrl⟩:=hex;have hm:=grownCap_ge w (i+1) c 77;generalize grownCap w (i+1) c 77=m at hrun hrl hm;refine (ins_end ob i c vb vo c2 w _ _ hnc hn2 hnil hrun).mono ?_
  rintro e w' ⟨rfl,rfl⟩
  have hfl:=hfo.append hv;have e1:rows.take i++[x]++rows.drop i=rows++[x]:=by rw [hn,List.take_length,List.drop_length,List.append_nil]
  rw [e1];have hol:olds.length=i*10:=by rw [hfo.len,<-hn]
  have hsz:(olds++vs++rest).toArray.size=m*10:=by simp only [List.size_toArray,qaZ,hol,hvl,hrl];omega
  refine post_move (c':=.at w.heap.size 0 (m*10) 10) hI (FrameOk.trans (FrameOk.drew _ w) (FrameOk.alloc (S:=c0.owns) _ _) (fun _ _ _ h=>h)) (fun b o h=>.inr (by rw [h.1];exact Nat.le_refl _)) (hfl.box (alloc_get w.drew _) (fun k v hk=>?_) (by simp only [qaZ,List.length_singleton];omega) (by omega)) ?_;·rw [Nat.zero_add,List.getElem?_toArray,qa6 (qaY.1 hk).1];exact hk
  have:=@Rep.bs K ([c0]++[.at w.heap.size 0 (m*10) 10]) 1 0 (i+1) w.heap.size 0 (m*10) 10 m rfl (by omega) (by omega);simpa using this
 generalize hx0:X.bs 0 0 n=y0 at r0;cases r0<;>try cases hx0
 case bsNil ob hc=>
  have e0:c0=.ghost:=by simpa using hc
  subst e0;have hi0:i=0:=by omega
  have hr0:rows=[]:=qbx hn.symm;refine endGrow ob 0 [] hi0 (Nat.le_refl _) (by omega) (fun _=>⟨rfl,rfl⟩) (by rw [hr0];exact Flat.nil) (fun w' _=>?_);cases ob<;>simp [Builtin.firstCells,loadCells,loadCellsFrom]
 case bs b base hi' sz cap hc hcap hlen=>
  have e0:c0=.at b base hi' sz:=by simpa using hc
  subst e0;obtain ⟨arr,el,g1,g2,g3,hbl,hfe⟩:=(hI.box 0 _ _ rfl rfl).flat;subst g1;simp only [Nat.zero_mul,Nat.zero_add,Nat.add_zero] at hcap ⊢;generalize hcd:(arr.toList.drop base).take (rows.length*10)=cs at hfe;have hcl:cs.length=n*10:=by rw [hfe.len,<-hn]
  have hcar:∀j v,cs[j]?=some v->arr[base+j]?=some v:=fun j v h=>by
   rw [<-hcd,qbb] at h;split at h;·rw [qa8] at h;simpa using h
   cases h
  have hcs:∀j v,cs[j]?=some v->w.cell? ⟨b,base+j,none⟩=some v:=fun j v h=>by simp only [World.cell?,hbl];exact hcar j v h
  have h1c:=hfe.oneCell;have hnk:∀o,base<=o->o<hi'->K b o=none:=fun o h1 h2=>hI.apart b o ⟨0,_,_,rfl,rfl,rfl,⟨rfl,h1,h2⟩⟩;have hfz:∀o,w.frozen? ⟨b,o,none⟩=false:=fun o=>by simp [World.frozen?,hbl]
  have hflat:=ins_flat hfe hv i;by_cases hin:i=n
  ·by_cases hfit:n+1<=cap
   ·subst hin;have hst:=run_storeCells_at Tryz.prog b (base+i*10) el vs 0 arr w hbl (by omega) h1v;simp only [Nat.add_zero] at hst;have hrun:∀ty,(Builtin.append_ #[22,22] ty #[.slice (some ⟨b,base,none⟩) i cap,.slice (some ⟨vb,vo,none⟩) 1 c2]).run Tryz.prog w=.ok (.slice (some ⟨b,base,none⟩) (i+1) cap) (w.setRow b (arr.toList.take (base+i*10)++vs++arr.toList.drop (base+i*10+vs.length)).toArray):=fun ty=>run_app_fit (P:=Tryz.prog) (ty:=ty) (ob:=some ⟨b,base,none⟩) und35 und35 hs78 vs _ (hvfc w rfl) hfit (fun ad e=>by cases e;rw [Addr.add_lit];exact hst) (fun e=>by cases e);refine (ins_end _ i cap vb vo c2 w _ _ (by omega) hn2 (fun e=>by cases e) hrun).mono ?_
    rintro e w' ⟨rfl,rfl⟩
    have hget:∀q,(arr.toList.take (base+i*10)++vs++arr.toList.drop (base+i*10+vs.length)).toArray[q]?=if q<base+i*10 then arr[q]? else if q<base+i*10+vs.length then vs[q-(base+i*10)]? else arr[q]?:=fun q=>by rw [splice_get _ _ _ _ (by have:arr.toList.length=arr.size:=Array.length_toList;omega)];simp
    have hsize:(arr.toList.take (base+i*10)++vs++arr.toList.drop (base+i*10+vs.length)).toArray.size=arr.size:=by simp;omega
    generalize (arr.toList.take (base+i*10)++vs++arr.toList.drop (base+i*10+vs.length)).toArray=arr' at hget hsize;refine post_move (c':=.at b base hi' 10) hI (FrameOk.setRow hbl hsize fun q hq=>?_) (fun b' o' h=>.inl h) (hflat.box (setRow_heap w b arr arr' el _ hbl) (fun k v hk=>?_) (by rw [hflat.len.symm.trans (by simp;omega:_=(i+1)*10)];omega) (by omega)) ?_
    ·rw [hget];have hout:¬(base<=q/\q<hi'):=fun hh=>hq ⟨rfl,hh.1,hh.2⟩;by_cases h5:q<base+i*10;·rw [if_pos h5]
     rw [if_neg h5,if_neg (by omega)]
    ·rw [hget];rcases ins_get hcl hvl (Nat.le_refl _) hk with ⟨h1,h2⟩|⟨h1,h2,h3⟩|⟨h1,h2,h3⟩;·rw [if_pos (by omega)];exact hcar k v h2
     ·rw [if_neg (by omega),if_pos (by omega),<-h3];congr 1;omega
     omega
    have:=@Rep.bs K ([.at b base hi' 10]++[.at b base hi' 10]) 1 0 (i+1) b base hi' 10 cap rfl (by omega) hfit;simpa using this
   refine endGrow (some ⟨b,base,none⟩) cap cs hin (by omega) (by omega) (fun e=>by cases e) hfe (fun w' hw=>?_);refine run_firstCells_some w' 10 n ⟨b,base,none⟩ n cap cs (by omega) (fun j u hu=>?_);rw [Addr.add_lit];have:=hcs j u hu;simp only [World.cell?,hw] at this ⊢;exact this
  have hil:i<n:=by omega
  by_cases hfit:n+1<=cap
  ·have hlb:arr.toList.length=arr.size:=Array.length_toList;have hsh:w.shape? b=some (el,arr.size):=by simp [World.shape?,hbl]
   refine (ins_shift b base n cap i vb vo c2 cs vs w hil hfit hn2 (fun j k hj hk e hne=>?_) hcl hvl hcs (fun j hj=>?_) (fun j _=>hfz _) hvs h1c h1v tA el kA arr.size hsa hsh (by omega) hkA hfz).mono ?_;·have hk1:=hvK j _ (qa3 (by omega));rw [e,hne,hnk _ (by omega) (by omega)] at hk1;cases hk1
   ·simp only [World.cell?,hbl];rw [qa7 (by omega)];rfl
   rintro e w' ⟨rfl,rfl⟩
   have hdl:(cs.drop (i*10)).length=(n-i)*10:=by rw [qba,hcl];omega
   have hbl2:w.drew.heap[b]?=some (.cells arr el (0,0)):=hbl;rw [setCells_row w.drew b _ arr el _ hbl2 (by omega) (fun v hv'=>h1c v (List.mem_of_mem_drop hv'))];have hget1:=fun q=>splice_get arr.toList (cs.drop (i*10)) (base+(i+1)*10) q (by omega);have hsz1:(arr.toList.take (base+(i+1)*10)++cs.drop (i*10)++arr.toList.drop (base+(i+1)*10+(cs.drop (i*10)).length)).toArray.size=arr.size:=by simp only [List.size_toArray,qaZ,qaN,qba,hlb];omega
   generalize (arr.toList.take (base+(i+1)*10)++cs.drop (i*10)++arr.toList.drop (base+(i+1)*10+(cs.drop (i*10)).length)).toArray=arr1 at hget1 hsz1 ⊢;have hb1:=setRow_heap w.drew b arr arr1 el (0,0) hbl2;have hlb1:arr1.toList.length=arr1.size:=Array.length_toList;rw [setCells_row _ b _ arr1 el _ hb1 (by omega) h1v];have hget2:=fun q=>splice_get arr1.toList vs (base+i*10) q (by omega);have hsz2:(arr1.toList.take (base+i*10)++vs++arr1.toList.drop (base+i*10+vs.length)).toArray.size=arr1.size:=by simp only [List.size_toArray,qaZ,qaN,qba,hlb1];omega
   generalize (arr1.toList.take (base+i*10)++vs++arr1.toList.drop (base+i*10+vs.length)).toArray=arr2 at hget2 hsz2 ⊢;have hb2:=setRow_heap _ b arr1 arr2 el (0,0) hb1;simp only [Array.getElem?_toList] at hget1 hget2;refine post_move (c':=.at b base hi' 10) hI (FrameOk.trans (FrameOk.drew _ w) (FrameOk.trans (FrameOk.setRow hbl2 hsz1 fun q hq=>?_) (FrameOk.setRow (S:=(CB.at b base hi' 10).owns) hb1 hsz2 fun q hq=>?_) (fun _ _ _ h=>h)) (fun _ _ _ h=>h)) (fun b' o' h=>.inl h) (hflat.box hb2 (fun k v hk=>?_) ?_ (by omega)) ?_
   ·rw [hget1];have hout:¬(base<=q/\q<hi'):=fun hh=>hq ⟨rfl,hh.1,hh.2⟩;by_cases h5:q<base+(i+1)*10;·rw [if_pos h5]
    rw [if_neg h5,if_neg (by omega)]
   ·rw [hget2];have hout:¬(base<=q/\q<hi'):=fun hh=>hq ⟨rfl,hh.1,hh.2⟩;by_cases h5:q<base+i*10;·rw [if_pos h5]
    rw [if_neg h5,if_neg (by omega)]
   ·rw [hget2];rcases ins_get hcl hvl hi hk with ⟨h1,h2⟩|⟨h1,h2,h3⟩|⟨h1,h2,h3⟩;·rw [if_pos (by omega),hget1,if_pos (by omega)];exact hcar k v h2
    ·rw [if_neg (by omega),if_pos (by omega),<-h3];congr 1;omega
    rw [if_neg (by omega),if_neg (by omega),hget1,if_neg (by omega),if_pos (by omega),qa8,<-h3];congr 1;omega
   ·have:=hflat.len;simp only [qaZ,qaN,qba,List.length_singleton];omega
   have:=@Rep.bs K ([.at b base hi' 10]++[.at b base hi' 10]) 1 0 (n+1) b base hi' 10 cap rfl (by omega) hfit;simpa using this
  refine (ins_grow b base n cap i vb vo c2 cs vs w hil (by omega) (by omega) (by omega) hcl hvl hcs hvs h1c h1v).mono ?_
  rintro e w' ⟨G,tl,hG,rfl,htl,rfl⟩
  have hdl:(cs.drop (i*10)).length=(n-i)*10:=by rw [qba,hcl];omega
  have hTl:(cs.take (i*10)).length=i*10:=by rw [qaN];omega
  generalize hA:(cs.take (i*10)++tl).toArray=A;have hAs:A.size=G*10:=by rw [<-hA,List.size_toArray,qaZ,hTl,htl];omega
  have hlA:A.toList.length=A.size:=Array.length_toList;have hb0:(w.alloc (.cells A 77)).drew.heap[w.heap.size]?=some (.cells A 77 (0,0)):=alloc_get w _;rw [setCells_row _ _ _ A 77 _ hb0 (by omega) h1v];have hget1:=fun q=>splice_get A.toList vs (i*10) q (by omega);have hsz1:(A.toList.take (i*10)++vs++A.toList.drop (i*10+vs.length)).toArray.size=A.size:=by simp only [List.size_toArray,qaZ,qaN,qba,hlA];omega
  generalize (A.toList.take (i*10)++vs++A.toList.drop (i*10+vs.length)).toArray=arr1 at hget1 hsz1 ⊢;have hb1:=setRow_heap _ w.heap.size A arr1 77 (0,0) hb0;have hlb1:arr1.toList.length=arr1.size:=Array.length_toList;have hb1':((w.alloc (.cells A 77)).drew.setRow w.heap.size arr1).drew.heap[w.heap.size]?=some (.cells arr1 77 (0,0)):=hb1;rw [setCells_row _ _ _ arr1 77 _ hb1' (by omega) (fun v hv'=>h1c v (List.mem_of_mem_drop hv'))];have hget2:=fun q=>splice_get arr1.toList (cs.drop (i*10)) ((i+1)*10) q (by omega);have hsz2:(arr1.toList.take ((i+1)*10)++cs.drop (i*10)++arr1.toList.drop ((i+1)*10+(cs.drop (i*10)).length)).toArray.size=arr1.size:=by simp only [List.size_toArray,qaZ,qaN,qba,hlb1];omega
  generalize (arr1.toList.take ((i+1)*10)++cs.drop (i*10)++arr1.toList.drop ((i+1)*10+(cs.drop (i*10)).length)).toArray=arr2 at hget2 hsz2 ⊢;have hb2:=setRow_heap _ w.heap.size arr1 arr2 77 (0,0) hb1';simp only [Array.getElem?_toList] at hget1 hget2;have hfr:FrameOk (CB.at b base hi' 10).owns w (((w.alloc (.cells A 77)).drew.setRow w.heap.size arr1).drew.setRow w.heap.size arr2):=by
   have f1:FrameOk (fun p _=>p=w.heap.size) w (((w.alloc (.cells A 77)).drew.setRow w.heap.size arr1).drew.setRow w.heap.size arr2):=
    FrameOk.trans (FrameOk.alloc (S:=fun p _=>p=w.heap.size) w _) (FrameOk.trans (FrameOk.drew _ _) (FrameOk.trans (FrameOk.setRow hb0 hsz1 fun q hq=>absurd rfl hq) (FrameOk.trans (FrameOk.drew _ _) (FrameOk.setRow hb1' hsz2 fun q hq=>absurd rfl hq) (fun _ _ _ h=>h)) (fun _ _ _ h=>h)) (fun _ _ _ h=>h)) (fun _ _ _ h=>h)
   exact f1.mono fun p o hp h=>by omega
  refine post_move (c':=.at w.heap.size 0 (G*10) 10) hI hfr (fun b' o' h=>.inr (by rw [h.1];exact Nat.le_refl _)) (hflat.box hb2 (fun k v hk=>?_) ?_ (by omega)) ?_
  ·rw [Nat.zero_add,hget2];rcases ins_get hcl hvl hi hk with ⟨h1,h2⟩|⟨h1,h2,h3⟩|⟨h1,h2,h3⟩;·rw [if_pos (by omega),hget1,if_pos (by omega),<-hA,List.getElem?_toArray,qa6 (by omega),qbb,if_pos h1];exact h2
   ·rw [if_pos (by omega),hget1,if_neg (by omega),if_pos (by omega)];exact h3
   rw [if_neg (by omega),if_pos (by omega),qa8,<-h3];congr 1;omega
  ·simp only [qaZ,qaN,qba,List.length_singleton];omega
  have:=@Rep.bs K ([.at b base hi' 10]++[.at w.heap.size 0 (G*10) 10]) 1 0 (n+1) w.heap.size 0 (G*10) 10 G rfl (by omega) (by omega);simpa using this
end
theorem run_clear_k {P:Program}(w:World)(t e ty:TypeId)(z:Value)(ht:P.underlying t=some (.slice e))(hv:∀w,(zeroValue e).run P w=.ok z w)(b o n c:Nat)(hn:0<n)
  (h1:∀v∈(Builtin.zeroCells z.cells n).toList,v.oneCell'=true)
  (hc:∀j,j<(Builtin.zeroCells z.cells n).toList.length->(w.cell? ⟨b,o+j,none⟩).isSome=true) (hf:∀j,j<(Builtin.zeroCells z.cells n).toList.length->w.frozen? ⟨b,o+j,none⟩=false):
  (Builtin.clear_ #[t] ty #[.slice (some ⟨b,o,none⟩) n c]).run P w=.ok (.tuple #[]) (w.setCells b o (Builtin.zeroCells z.cells n).toList):=by
 have hst:=run_storeCells_cells (P:=P) b o (Builtin.zeroCells z.cells n).toList 0 w (by simpa using hc) (by simpa using hf) h1;simp only [Nat.add_zero] at hst;obtain ⟨m,rfl⟩:∃m,n=m+1:=⟨n-1,by omega⟩;generalize hz:(Builtin.zeroCells z.cells (m+1)).toList=zs at hst ⊢;simp [Builtin.clear_,run_underlying ht,hv,hz,hst]
def zslot:Value:=.agg #[.int .i64 0,.int .i64 0,.int .i64 0,.string ⟨#[]⟩,.slice none 0 0,.slice none 0 0,.int .i64 0,.int .i64 0,.slice none 0 0,.slice none 0 0]
theorem zcells_len (n:Nat):(Builtin.zeroCells zslot.cells n).toList.length=n*10:=by unfold Builtin.zeroCells;rw [Array.length_toList,Array.size_map,Array.size_range];rfl
theorem zcells_one (n:Nat):∀v∈(Builtin.zeroCells zslot.cells n).toList,v.oneCell'=true:=by
 intro v hv;unfold Builtin.zeroCells at hv;simp only [Array.toList_map,qbh] at hv;obtain ⟨i,_,rfl⟩:=hv;have hs:zslot.cells.size=10:=rfl;have hi:i%zslot.cells.size<10:=by rw [hs];exact Nat.mod_lt _ (by omega)
 generalize i%zslot.cells.size=q at hi;have hall:((List.range 10).all fun q=>(zslot.cells[q]!).oneCell')=true:=by kernel_rfl
 exact qbo.1 hall q (List.mem_range.2 hi)
set_option maxHeartbeats 4000000 in
set_option maxRecDepth 1000000 in
theorem del_walk (b off n c i j:Nat)(cs:List Value)(w:World)(hij:i<j)(hj:j<=n)(hnc:n<=c)(hcl:cs.length=n*10)
  (hcs:∀j v,cs[j]?=some v->w.cell? ⟨b,off+j,none⟩=some v) (hfz:∀o,w.frozen? ⟨b,o,none⟩=false) (h1c:∀v∈cs,v.oneCell'=true):
  Calls Tryz.prog 196 #[.slice (some ⟨b,off,none⟩) n c,.int .i64 i,.int .i64 j] w fun e w'=>e=.returned (.slice (some ⟨b,off,none⟩) (n-(j-i)) c)/\w'=(w.drew.setCells b (off+i*10) (cs.drop (j*10))).setCells b (off+(i+(n-j))*10) (Builtin.zeroCells zslot.cells (n-(i+(n-j)))).toList:=by
 have mixed:Tryz.prog.follows .mixedOrders=true:=by kernel_rfl
 obtain ⟨i0,hi0,hz0⟩:∃i0,Tryz.prog.info? 77=some i0/\i0.size=10:=qa1.1 info78;obtain ⟨news,hnews⟩:∃news,news=cs.drop (j*10):=⟨_,rfl⟩;have hlen:news.length=(n-j)*10:=by rw [hnews,qba,hcl];omega
 have hget:∀(t:Nat) (u:Value),news[t]?=some u->w.cell? ⟨b,off+j*10+t,none⟩=some u:=fun t u h=>by rw [hnews,qa8] at h;rw [Nat.add_assoc];exact hcs _ _ h
 obtain ⟨A,hA,hsrc⟩:∃A:Addr,(if c=j then some (⟨b,off,none⟩:Addr) else some ⟨b,off+j*10,none⟩)=some A/\Hid (∀t u,news[t]?=some u->w.drew.cell? (A.add t)=some u):=by
  by_cases h:c=j
  ·refine ⟨⟨b,off,none⟩,by simp [h],fun t u hu=>?_⟩;have h0:news.length=0:=by rw [hlen];omega
   rw [List.length_eq_zero_iff.1 h0] at hu;simp at hu
  refine ⟨⟨b,off+j*10,none⟩,by simp [h],fun t u hu=>?_⟩;rw [Addr.add_lit];exact hget t u hu
 have s1:Hid (news.length=(n-j)*10):=hlen;have s2:Hid (∀u∈news,u.oneCell'=true):=fun u hu=>h1c u (by rw [hnews] at hu;exact List.mem_of_mem_drop hu);have hsome:∀t,t<n*10->(w.cell? ⟨b,off+t,none⟩).isSome=true:=fun t ht=>by rw [hcs t _ (qa3 (by omega))];rfl
 have s3:Hid (∀t,t<news.length->(w.drew.cell? ⟨b,off+i*10+t,none⟩).isSome=true/\w.drew.frozen? ⟨b,off+i*10+t,none⟩=false):=fun t ht=>by rw [hlen] at ht;rw [Nat.add_assoc];exact ⟨hsome _ (by omega),hfz _⟩
 obtain ⟨W1,hW1⟩:∃W1,W1=w.drew.setCells b (off+i*10) news:=⟨_,rfl⟩;have hsp1:∀k,k<n*10->(W1.cell? ⟨b,off+k,none⟩).isSome=true:=fun k hk=>by rw [hW1];exact isSome_setCells b _ _ _ (fun t ht=>by rw [hlen] at ht;rw [Nat.add_assoc];exact hsome _ (by omega)) _ (hsome k hk)
 have hf1:∀o,W1.frozen? ⟨b,o,none⟩=false:=fun o=>by rw [hW1,World.frozen?_setCells];exact hfz o
 have hclr:∀ty,(Builtin.clear_ #[22] ty #[.slice (some ⟨b,off+(i+(n-j))*10,none⟩) (n-(i+(n-j))) (c-(i+(n-j)))]).run Tryz.prog W1=.ok (.tuple #[]) (W1.setCells b (off+(i+(n-j))*10) (Builtin.zeroCells zslot.cells (n-(i+(n-j)))).toList):=fun ty=>run_clear_k W1 22 77 ty zslot und35 Tryz.zeroValue77 b _ _ _ (by omega) (zcells_one _) (fun t ht=>by rw [zcells_len] at ht;rw [Nat.add_assoc];exact hsp1 _ (by omega)) (fun t _=>hf1 _);obtain ⟨zs,hzs⟩:∃zs,zs=(Builtin.zeroCells zslot.cells (n-(i+(n-j)))).toList:=⟨_,rfl⟩;simp only [<-hzs] at hclr ⊢;have hW:Hid (W1=w.drew.setCells b (off+i*10) news):=hW1;have hic:i<=c:=by omega
 have hjc:j<=c:=by omega
 have hinn:i<=n:=by omega
 rw [<-hnews];clear hzs hsp1 hf1 hsome hW1 hget hnews hlen hcs hfz h1c
 go_enter Tryz.func196,Tryz.ntmps196
 go_wp2_with fail
 go_region_law_o (refine step_append_room rfl (.tmp 22) (.tmp 25) 22 rfl 77 i0 10 und35 hi0 hz0 b off i c (by simp [Act.eval,Act.put]) A (n-j) (c-j) news (by simp [Act.eval,Act.put]) s1.out hsrc.out s2.out (by omega) s3.out ?_;rw [<-hW.out])
 go_wp2
 go_ret
 exact ⟨by rw [show n-(j-i)=i+(n-j) by omega];rfl,by rw [hW.out]⟩
theorem del_get {j:Nat}(hcl:cs.length=n*10)(hij:i<j)(hj:j<=n)(h:(cs.take (i*10)++cs.drop (j*10))[k]?=some v):
  (k<i*10/\cs[k]?=some v)\/(i*10<=k/\k<(i+(n-j))*10/\(cs.drop (j*10))[k-i*10]?=some v):=by
 have hT:(cs.take (i*10)).length=i*10:=by rw [qaN];omega
 by_cases h1:k<i*10;·rw [qa6 (by omega),qbb,if_pos h1] at h;exact .inl ⟨h1,h⟩
 rw [qbf (by omega),hT] at h;have:=(qaY.1 h).1;rw [qba] at this;exact .inr ⟨by omega,by omega,h⟩
set_option maxRecDepth 100000 in
theorem del_sem {R:CodeRel}(n i j:Nat)(rows:qbI)(hij:i<j)(hj:j<=n)(hn:n=rows.length)(hn2:n<=1000):
  FSem Tryz.prog R 196 [.bs 0 0 n,.v (.int .i64 (Int.ofNat i)),.v (.int .i64 (Int.ofNat j))] [.row 10 rows] (.bs 1 0 (n-(j-i))) [.dead,.row 10 (rows.take i++rows.drop j)]:=by
 intro K C w cargs hI ha;have hs:cargs.size=3:=ha.1;have r0:=ha.2 0 _ cargs[0] rfl (qa7 (by omega));have r1:=ha.2 1 _ cargs[1] rfl (qa7 (by omega));have r2:=ha.2 2 _ cargs[2] rfl (qa7 (by omega));have hca:cargs=#[cargs[0],cargs[1],cargs[2]]:=by
  refine Array.ext (by simp [hs]) fun j h1 h2=>?_
  match j,h1,h2 with
  |0,_,_=>rfl
  |1,_,_=>rfl
  |2,_,_=>rfl
  |j+3,h1,_=>omega
 rw [hca];generalize cargs[0]=v0 at r0;generalize cargs[1]=v1 at r1;generalize cargs[2]=v2 at r2;obtain rfl:=rep_v r1;obtain rfl:=rep_v r2;obtain ⟨c0,hC⟩:∃c0,C=[c0]:=by
  have:=hI.size
  match C,this with
  |[c0],_=>exact ⟨c0,rfl⟩
 subst hC;generalize hx0:X.bs 0 0 n=y0 at r0;cases r0<;>try cases hx0
 case bsNil ob hc=>omega
 case bs b base hi' sz cap hc hcap hlen=>
  have e0:c0=.at b base hi' sz:=by simpa using hc
  subst e0;obtain ⟨arr,el,g1,g2,g3,hbl,hfe⟩:=(hI.box 0 _ _ rfl rfl).flat;subst g1;simp only [Nat.zero_mul,Nat.zero_add,Nat.add_zero] at hcap ⊢;generalize hcd:(arr.toList.drop base).take (rows.length*10)=cs at hfe;have hcl:cs.length=n*10:=by rw [hfe.len,<-hn]
  have hcar:∀j v,cs[j]?=some v->arr[base+j]?=some v:=fun j v h=>by
   rw [<-hcd,qbb] at h;split at h;·rw [qa8] at h;simpa using h
   cases h
  have hcs:∀j v,cs[j]?=some v->w.cell? ⟨b,base+j,none⟩=some v:=fun j v h=>by simp only [World.cell?,hbl];exact hcar j v h
  have h1c:=hfe.oneCell;have hfz:∀o,w.frozen? ⟨b,o,none⟩=false:=fun o=>by simp [World.frozen?,hbl]
  have hflat:=(hfe.take i).append (hfe.drop j);have hlb:arr.toList.length=arr.size:=Array.length_toList;refine (del_walk b base n cap i j cs w hij hj (by omega) hcl hcs hfz h1c).mono ?_
  rintro e w' ⟨rfl,rfl⟩
  have hzl:=zcells_len (n-(i+(n-j)));have hz1:=zcells_one (n-(i+(n-j)));generalize (Builtin.zeroCells zslot.cells (n-(i+(n-j)))).toList=zs at hzl hz1;have hdl:(cs.drop (j*10)).length=(n-j)*10:=by rw [qba,hcl];omega
  have hbl2:w.drew.heap[b]?=some (.cells arr el (0,0)):=hbl;rw [setCells_row w.drew b _ arr el _ hbl2 (by omega) (fun v hv'=>h1c v (List.mem_of_mem_drop hv'))];have hget1:=fun q=>splice_get arr.toList (cs.drop (j*10)) (base+i*10) q (by omega);have hsz1:(arr.toList.take (base+i*10)++cs.drop (j*10)++arr.toList.drop (base+i*10+(cs.drop (j*10)).length)).toArray.size=arr.size:=by simp only [List.size_toArray,qaZ,qaN,qba,hlb];omega
  generalize (arr.toList.take (base+i*10)++cs.drop (j*10)++arr.toList.drop (base+i*10+(cs.drop (j*10)).length)).toArray=arr1 at hget1 hsz1 ⊢;have hb1:=setRow_heap w.drew b arr arr1 el (0,0) hbl2;have hlb1:arr1.toList.length=arr1.size:=Array.length_toList;rw [setCells_row _ b _ arr1 el _ hb1 (by omega) hz1];have hget2:=fun q=>splice_get arr1.toList zs (base+(i+(n-j))*10) q (by omega);have hsz2:(arr1.toList.take (base+(i+(n-j))*10)++zs++arr1.toList.drop (base+(i+(n-j))*10+zs.length)).toArray.size=arr1.size:=by simp only [List.size_toArray,qaZ,qaN,qba,hlb1];omega
  generalize (arr1.toList.take (base+(i+(n-j))*10)++zs++arr1.toList.drop (base+(i+(n-j))*10+zs.length)).toArray=arr2 at hget2 hsz2 ⊢;have hb2:=setRow_heap _ b arr1 arr2 el (0,0) hb1;simp only [Array.getElem?_toList] at hget1 hget2;refine post_move (c':=.at b base hi' 10) hI (FrameOk.trans (FrameOk.drew _ w) (FrameOk.trans (FrameOk.setRow hbl2 hsz1 fun q hq=>?_) (FrameOk.setRow (S:=(CB.at b base hi' 10).owns) hb1 hsz2 fun q hq=>?_) (fun _ _ _ h=>h)) (fun _ _ _ h=>h)) (fun b' o' h=>.inl h) (hflat.box hb2 (fun k v hk=>?_) ?_ (by omega)) ?_
  ·rw [hget1];have hout:¬(base<=q/\q<hi'):=fun hh=>hq ⟨rfl,hh.1,hh.2⟩;by_cases h5:q<base+i*10;·rw [if_pos h5]
   rw [if_neg h5,if_neg (by omega)]
  ·rw [hget2];have hout:¬(base<=q/\q<hi'):=fun hh=>hq ⟨rfl,hh.1,hh.2⟩;by_cases h5:q<base+(i+(n-j))*10;·rw [if_pos h5]
   rw [if_neg h5,if_neg (by omega)]
  ·rw [hget2];rcases del_get hcl hij hj hk with ⟨h1,h2⟩|⟨h1,h2,h3⟩;·rw [if_pos (by omega),hget1,if_pos (by omega)];exact hcar k v h2
   rw [if_pos (by omega),hget1,if_neg (by omega),if_pos (by omega),<-h3];congr 1;omega
  ·have:=hflat.len;simp only [qaZ,qaN,qba];omega
  have:=@Rep.bs K ([.at b base hi' 10]++[.at b base hi' 10]) 1 0 (n-(j-i)) b base hi' 10 cap rfl (by omega) (by omega);simpa using this
end Go.Proofs.YtonnphbfclaigaaGreatDoor
namespace Go.Proofs.YtonnphbfclaigaaGreatDoor.If
open Go.Em Go.RowKit Go.Lib
variable {rows:qbI}{cs vs:List Value}{v:Value}
theorem run_copy_k {P:Program}(w:World)(dT sT ty elem:TypeId)(k:Nat)(b o dLen dCap:Nat)(a:Addr)(sLen sCap:Nat)(cs:List Value)
  (hu:P.underlying dT=some (.slice elem)) (hs:(P.info? elem).map (·.size)=some k) (hn:cs.length=Nat.min sLen dLen*k)
  (hsrc:∀j v,cs[j]?=some v->w.cell? (a.add j)=some v) (hc:∀j,j<cs.length->(w.cell? ⟨b,o+j,none⟩).isSome=true) (hf:∀j,j<cs.length->w.frozen? ⟨b,o+j,none⟩=false) (h1:∀v∈cs,v.oneCell'=true):
  (Builtin.copy_ #[dT,sT] ty #[.slice (some ⟨b,o,none⟩) dLen dCap,.slice (some a) sLen sCap]).run P w=.ok (goInt (Nat.min sLen dLen)) (w.setCells b o cs):=by
 have hl:=run_loadCells_list (P:=P) w a cs hsrc;have hst:=run_storeCells_cells (P:=P) b o cs 0 w (by simpa using hc) (by simpa using hf) h1;cases hq:P.info? elem with
 |none=>simp [hq] at hs
 |some i=>
  have hi:i.size=k:=by simpa [hq] using hs
  simp [Builtin.copy_,run_underlying hu,Builtin.lenOf,Builtin.firstCells,sizeOf,typeInfo,hq,hi,<-hn,hl,hst]
theorem run_overlaps_own {P:Program}(w:World)(tS tR e:TypeId)(ht:P.underlying tS=some (.slice e))(size:Nat)(hz:∀w,(Go.sizeOf e).run P w=.ok size w)
  (a b:Addr) (la ca lb cb:Nat) (hne:a.block≠b.block) (tA tB:TypeId) (kA kB:Nat)
  (hsa:w.shape? a.block=some (tA,kA)) (hsb:w.shape? b.block=some (tB,kB)) (hkB:kB≠0) (hkA:kA≠0)
  (hfb:w.frozen? b=false) (hfe:w.frozen? {block:=b.block,off:=kB}=false):
  (Extern.SlicesOverlaps.overlaps #[tS,tS] #[tR] #[.slice (some a) la ca,.slice (some b) lb cb]).run P w=.ok (.bool false) w:=by
 have hnb:(a.block !=b.block)=true:=by simpa using hne
 have hnb':(a.block==b.block)=false:=by simpa using hne
 change Sem.run P (α:=Value) (do
  let some t:=(#[tS,tS]:Array TypeId)[0]?|stuck "slices.overlaps: no parameter types"
  let .slice elem <-underlying t|stuck "slices.overlaps: slice type expected"
  let size <-sizeOf elem
  match (some a:Option Addr),(some b:Option Addr) with
  |some a,some b=>
   if la=0\/lb=0\/size=0 then pure (Value.bool false)
   else if a.block !=b.block&&(<-frozen a)&&(<-frozen b) then unsupported .addressObserved
   else do
    if a.block !=b.block then do
     noView a;noView b
     if <-mayBeOne a b then return Value.bool ((<-choose (.extern "sameAddr.stringBytes" 2))==1)
    pure (Value.bool (a.block==b.block&&a.off<b.off+lb*size&&b.off<a.off+la*size))
  |_,_=>pure (Value.bool false)) w=_
 by_cases h0:la=0\/lb=0\/size=0;·simp [run_underlying ht,hz,h0]
 cases kB with
 |zero=>exact absurd rfl hkB
 |succ kB=>
  obtain ⟨kA,rfl⟩:∃k,kA=k+1:=⟨kA-1,by omega⟩;cases hfa:w.frozen? a with
  |true=>simp [run_underlying ht,hz,h0,hnb,hnb',frozen,noView,viewAt,mayBeOne,stringish,shape,Sem.run,hsa,hsb,hfb,hfe,hfa]
  |false=>
   cases hfx:w.frozen? {block:=a.block,off:=kA+1} with
   |true=>simp [run_underlying ht,hz,h0,hnb,hnb',frozen,noView,viewAt,mayBeOne,stringish,shape,Sem.run,hsa,hsb,hfb,hfe,hfa,hfx]
   |false=>simp [run_underlying ht,hz,h0,hnb,hnb',frozen,noView,viewAt,mayBeOne,stringish,shape,Sem.run,hsa,hsb,hfb,hfe,hfa,hfx]
theorem run_overlaps_same {P:Program}(w:World)(tS tR e:TypeId)(ht:P.underlying tS=some (.slice e))(size:Nat)(hz:∀w,(Go.sizeOf e).run P w=.ok size w)
  (a b:Addr) (la ca lb cb:Nat) (hsame:a.block=b.block) (hd:¬(a.off<b.off+lb*size/\b.off<a.off+la*size)):
  (Extern.SlicesOverlaps.overlaps #[tS,tS] #[tR] #[.slice (some a) la ca,.slice (some b) lb cb]).run P w=.ok (.bool false) w:=by
 have hnb:(a.block !=b.block)=false:=by simpa using hsame
 have hnb':(a.block==b.block)=true:=by simpa using hsame
 have hd':(decide (a.off<b.off+lb*size)&&decide (b.off<a.off+la*size))=false:=by
  cases h:(decide (a.off<b.off+lb*size)&&decide (b.off<a.off+la*size)) with
  |false=>rfl
  |true=>exact absurd (by simpa using h) hd
 change Sem.run P (α:=Value) (do
  let some t:=(#[tS,tS]:Array TypeId)[0]?|stuck "slices.overlaps: no parameter types"
  let .slice elem <-underlying t|stuck "slices.overlaps: slice type expected"
  let size <-sizeOf elem
  match (some a:Option Addr),(some b:Option Addr) with
  |some a,some b=>
   if la=0\/lb=0\/size=0 then pure (Value.bool false)
   else if a.block !=b.block&&(<-frozen a)&&(<-frozen b) then unsupported .addressObserved
   else do
    if a.block !=b.block then do
     noView a;noView b
     if <-mayBeOne a b then return Value.bool ((<-choose (.extern "sameAddr.stringBytes" 2))==1)
    pure (Value.bool (a.block==b.block&&a.off<b.off+lb*size&&b.off<a.off+la*size))
  |_,_=>pure (Value.bool false)) w=_
 by_cases h0:la=0\/lb=0\/size=0;·simp [run_underlying ht,hz,h0]
 simp [run_underlying ht,hz,h0,hnb,hnb',hd',frozen,Sem.run]
theorem und35:Tryz.prog.underlying 29=some (.slice 136):=by kernel_rfl
theorem info78:(Tryz.prog.info? 136).map (·.size)=some 7:=by kernel_rfl
theorem size78:∀w,(Go.sizeOf 136).run Tryz.prog w=.ok 7 w:=Tryz.sizeOf136
set_option maxHeartbeats 4000000 in
set_option maxRecDepth 100000 in
theorem ins_shift (b off n c i vb voff vc:Nat)(cs vs:List Value)(w:World)(hi:i<n)(hroom:n+1<=c)(hn3:n<=2000000)(hdis:∀j k,j<7->k<(n+1)*7->vb=b->voff+j≠off+k)
  (hcl:cs.length=n*7) (hvl:vs.length=7)
  (hcs:∀j v,cs[j]?=some v->w.cell? ⟨b,off+j,none⟩=some v) (hsp:∀j,j<(n+1)*7->(w.cell? ⟨b,off+j,none⟩).isSome=true) (hfz:∀j,j<(n+1)*7->w.frozen? ⟨b,off+j,none⟩=false)
  (hvs:∀j v,vs[j]?=some v->w.cell? ⟨vb,voff+j,none⟩=some v) (h1c:∀v∈cs,v.oneCell'=true) (h1v:∀v∈vs,v.oneCell'=true)
  (tA tB:TypeId) (kA kB:Nat) (hsa:w.shape? vb=some (tA,kA)) (hsb:w.shape? b=some (tB,kB)) (hkB:kB≠0) (hkA:kA≠0) (hfb:∀o,w.frozen? ⟨b,o,none⟩=false):
  Calls Tryz.prog 406 #[.slice (some ⟨b,off,none⟩) n c,.int .i64 i,.slice (some ⟨vb,voff,none⟩) 1 vc] w fun e w'=>
   e=.returned (.slice (some ⟨b,off,none⟩) (n+1) c)/\w'=(w.drew.setCells b (off+(i+1)*7) (cs.drop (i*7))).setCells b (off+i*7) vs:=by
 have hz2:¬((i:Int)=(n:Int)):=by omega
 have hov:∀cb,(callFunc 475 #[.slice (some ⟨vb,voff,none⟩) 1 vc,.slice (some ⟨b,off+(i+1)*7,none⟩) (n-i) cb]).run Tryz.prog w=.ok (.value (.bool false)) w:=fun cb=>by
  rw [run_callFunc_extern Tryz.func475 (by kernel_rfl) (by kernel_rfl) (by kernel_rfl) (e:=Extern.SlicesOverlaps.overlaps #[29,29] #[4]) (by kernel_rfl)];by_cases hvb:vb=b
  ·rw [run_overlaps_same w 29 4 136 und35 7 size78 ⟨vb,voff,none⟩ ⟨b,off+(i+1)*7,none⟩ 1 vc (n-i) cb hvb (fun h=>by
    obtain ⟨h1,h2⟩:=h;dsimp only at h1 h2;by_cases hlo:off+(i+1)*7<=voff;·exact hdis 0 (voff-off) (by omega) (by omega) hvb (by omega)
    exact hdis (off+(i+1)*7-voff) ((i+1)*7) (by omega) (by omega) hvb (by omega))]
   rfl
  rw [run_overlaps_own w 29 4 136 und35 7 size78 ⟨vb,voff,none⟩ ⟨b,off+(i+1)*7,none⟩ 1 vc (n-i) cb hvb tA tB kA kB hsa hsb hkB hkA (hfb _) (hfb _)];rfl
 have hdl:(cs.drop (i*7)).length=(n-i)*7:=by rw [qba,hcl];omega
 have hw1:IntKind.i64.wrap ((i:Int)+1)=(i:Int)+1:=by rw [IntKind.wrap_i64];omega
 have hb1:(0:Int)<=(i:Int)+1:=by omega
 have hin:i<=n:=by omega
 have htn:((i:Int)+1).toNat=i+1:=by omega
 have hb2:¬(c=i+1):=by omega
 have hb3:(i:Int)<=(n:Int)+1:=by omega
 have hb4:¬(c=i):=by omega
 have hcp1:∀ty dc sc,(Builtin.copy_ #[29,29] ty #[.slice (some ⟨b,off+(i+1)*7,none⟩) (n-i) dc,.slice (some ⟨b,off+i*7,none⟩) (n+1-i) sc]).run Tryz.prog w.drew=.ok (goInt (Nat.min (n+1-i) (n-i))) (w.drew.setCells b (off+(i+1)*7) (cs.drop (i*7))):=fun ty dc sc=>
  run_copy_k w.drew _ _ ty 136 7 b (off+(i+1)*7) (n-i) dc ⟨b,off+i*7,none⟩ (n+1-i) sc (cs.drop (i*7)) und35 info78 (by rw [hdl];congr 1;simp only [Nat.min_def];split<;>omega)
   (fun j v hj=>by rw [Addr.add_lit,Nat.add_assoc];exact hcs (i*7+j) v (by rwa [qa8] at hj))
   (fun j hj=>by rw [Nat.add_assoc];exact hsp _ (by omega)) (fun j hj=>by rw [Nat.add_assoc];exact hfz _ (by omega)) (fun v hv=>h1c v (List.mem_of_mem_drop hv))
 obtain ⟨W1,hW1⟩:∃W1,W1=w.drew.setCells b (off+(i+1)*7) (cs.drop (i*7)):=⟨_,rfl⟩;have hsp1:∀k,k<(n+1)*7->(W1.cell? ⟨b,off+k,none⟩).isSome=true:=fun k hk=>by rw [hW1];exact isSome_setCells b _ _ _ (fun j hj=>by rw [Nat.add_assoc];exact hsp _ (by omega)) _ (hsp k hk)
 have hcp2:∀(W:World),(∀x,W.cell? x=W1.cell? x)->(∀x,W.frozen? x=W1.frozen? x)->∀ty dc,(Builtin.copy_ #[29,29] ty #[.slice (some ⟨b,off+i*7,none⟩) (n+1-i) dc,.slice (some ⟨vb,voff,none⟩) 1 vc]).run Tryz.prog W=.ok (goInt (Nat.min 1 (n+1-i))) (W.setCells b (off+i*7) vs):=fun W hWc hWf ty dc=>
  run_copy_k W _ _ ty 136 7 b (off+i*7) (n+1-i) dc ⟨vb,voff,none⟩ 1 vc vs und35 info78 (by rw [hvl];simp only [Nat.min_def];split<;>omega)
   (fun j v hj=>by
    have hj':j<7:=by rw [<-hvl];exact (qaY.1 hj).1
    rw [Addr.add_lit,hWc,hW1,World.cell?_setCells_out b _ _ _ _ (fun h _=>by
     dsimp only at h ⊢;have h5:=hdis j (voff+j-off) hj';by_cases h6:off<=voff+j/\voff+j-off<(n+1)*7;·exact absurd (by omega) (h5 h6.2 h)
     omega)]
    exact hvs j v hj)
   (fun j hj=>by rw [hWc,Nat.add_assoc];exact hsp1 _ (by omega)) (fun j hj=>by rw [hWf,hW1,World.frozen?_setCells,Nat.add_assoc];exact hfz _ (by omega)) h1v
 rw [<-hW1] at hcp1;have mixed:Tryz.prog.follows .mixedOrders=true:=by kernel_rfl
 go_enter Tryz.func406,Tryz.ntmps406
 go_wp2_with (simp only [hov])
 go_region_law_o (refine step_copy_runI rfl _ _ 29 29 rfl _ _ (by simp [Act.eval,Act.put]) (by simp [Act.eval,Act.put]) (hcp1 _ _ _) ?_)
 go_wp2_with (at_builtin;refine wpList_copy_runI _ rfl _ _ 29 29 rfl _ _ rfl rfl (hcp2 _ (fun _=>rfl) (fun _=>rfl) _ _) ?_)
 go_ret
 first|exact ⟨rfl,rfl⟩|exact ⟨rfl,by rw [hW1]⟩
set_option maxHeartbeats 4000000 in
set_option maxRecDepth 100000 in
theorem ins_end (ob:Option Addr)(n c vb voff vc:Nat)(w w1:World)(v:Value)(hnc:n<=c)(hn3:n<=2000000)(hnil:ob=none->n=0/\c=0)
  (hrun:∀ty,(Builtin.append_ #[29,29] ty #[.slice ob n c,.slice (some ⟨vb,voff,none⟩) 1 vc]).run Tryz.prog w=.ok v w1):
  Calls Tryz.prog 406 #[.slice ob n c,.int .i64 n,.slice (some ⟨vb,voff,none⟩) 1 vc] w fun e w'=>e=.returned v/\w'=w1:=by
 have mixed:Tryz.prog.follows .mixedOrders=true:=by kernel_rfl
 go_enter Tryz.func406,Tryz.ntmps406
 cases ob with
 |none=>
  obtain ⟨rfl,rfl⟩:=hnil rfl
  go_wp2_with (at_builtin;refine Lib.wpList_append_run _ rfl _ _ _ _ rfl _ _ rfl rfl _ _ (hrun _) ?_)
  go_ret
  exact ⟨rfl,rfl⟩
 |some a=>
  obtain ⟨ab,ao,asp⟩:=a
  go_wp2_with (at_builtin;refine Lib.wpList_append_run _ rfl _ _ _ _ rfl _ _ rfl rfl _ _ (hrun _) ?_)
  all_goals (go_ret;exact ⟨rfl,rfl⟩)
def IsRow (r:Array Value)(l:List Value):Prop:=r=l.toArray
theorem info78b:(Tryz.prog.info? 136).map (fun i=>(i.zero.map (·.cells.size),i.size,i.bytes))=some (some 7,7,104):=by kernel_rfl
theorem und3:Tryz.prog.underlying 3=some (.int .i64):=by kernel_rfl
set_option maxHeartbeats 4000000 in
set_option maxRecDepth 100000 in
theorem ins_grow (b off n c i vb voff vc:Nat)(cs vs:List Value)(w:World)(hi:i<n)(hnc:n<=c)(hroom:c<n+1)(hc63:c<=4000000)
  (hcl:cs.length=n*7) (hvl:vs.length=7)
  (hcs:∀j v,cs[j]?=some v->w.cell? ⟨b,off+j,none⟩=some v)
  (hvs:∀j v,vs[j]?=some v->w.cell? ⟨vb,voff+j,none⟩=some v) (h1c:∀v∈cs,v.oneCell'=true) (h1v:∀v∈vs,v.oneCell'=true):
  Calls Tryz.prog 406 #[.slice (some ⟨b,off,none⟩) n c,.int .i64 i,.slice (some ⟨vb,voff,none⟩) 1 vc] w fun e w'=>
   ∃(G:Nat) (tl:List Value),n+1<=G/\e=.returned (.slice (some ⟨w.heap.size,0,none⟩) (n+1) G)/\tl.length=(G-i)*7/\
   w'=(((w.alloc (.cells ((cs.take (i*7))++tl).toArray 136)).drew.setCells w.heap.size (i*7) vs).drew).setCells w.heap.size ((i+1)*7) (cs.drop (i*7)):=by
 obtain ⟨i0,hi0,hz0,hzs,hzb⟩:∃i0,Tryz.prog.info? 136=some i0/\i0.zero.map (·.cells.size)=some 7/\i0.size=7/\i0.bytes=104:=by obtain ⟨i0,h1,h2⟩:=qa1.1 info78b;simp only [qaH] at h2;exact ⟨i0,h1,h2.1,h2.2.1,h2.2.2⟩
 obtain ⟨zv,hz0,hzc⟩:=qa1.1 hz0;have hz2:¬((i:Int)=(n:Int)):=by omega
 have hz3:(c:Int)<(n:Int)+1:=by omega
 have hbw:b<w.heap.size:=block_lt_of_cell (hcs 0 _ (qa3 (by omega)));have hvw:vb<w.heap.size:=block_lt_of_cell (hvs 0 _ (qa3 (by omega)));have hkk:(n:Int)+1-(i:Int)=((n+1-i:Nat):Int):=by omega
 have hik:i+(n+1-i)=n+1:=by omega
 have hold:(Builtin.firstCells i0.size i (.slice (some ⟨b,off,none⟩) i c)).run Tryz.prog w.drew=.ok (cs.take (i*7)).toArray w.drew:=by
  rw [hzs];exact run_firstCells_some w.drew 7 i ⟨b,off,none⟩ i c (cs.take (i*7)) (by rw [qaN];omega) (fun j v hj=>by
   rw [Addr.add_lit];rw [qbb] at hj;split at hj;·exact hcs j v hj
   cases hj)
 have hrz:∀ty,(Builtin.append_ #[29,3] ty #[.slice (some ⟨b,off,none⟩) i c,.int .i64 ((n:Int)+1-(i:Int))]).run Tryz.prog w=
   .ok (.slice (some ⟨w.heap.size,0,none⟩) (n+1) (grownCap w (n+1) c 136)) (w.drew.alloc (.cells ((cs.take (i*7)).toArray++Builtin.zeroCells zv.cells (n+1-i)++Builtin.zeroCells zv.cells (grownCap w (n+1) c 136-(n+1))) 136)):=fun ty=>by
  have h:=Lib.run_append_grow_zeros w 29 3 ty 136 i0 zv .i64 .i64 und35 und3 hi0 hz0 (some ⟨b,off,none⟩) i c (cs.take (i*7)) hold (n+1-i) (by omega) (by omega) (by omega) (by omega) (by rw [hzb];omega) (by rw [hzb,hik];exact growslice_fits hroom (by omega));rw [hik] at h;rw [hkk];exact h
 have hGn:n+1<=grownCap w (n+1) c 136:=grownCap_ge w _ _ _;have hG63:grownCap w (n+1) c 136<=9223372036854775807:=by have:=grownCap_le_maxLen w (n+1) c 136 (by unfold maxLen;omega);unfold maxLen at this;omega
 generalize grownCap w (n+1) c 136=G at hrz hGn hG63;have hzl:∀k,(Builtin.zeroCells zv.cells k).size=k*7:=fun k=>by simp [Builtin.zeroCells,hzc]
 obtain ⟨tl,htl⟩:∃tl:List Value,(cs.take (i*7)).toArray++Builtin.zeroCells zv.cells (n+1-i)++Builtin.zeroCells zv.cells (G-(n+1))=((cs.take (i*7))++tl).toArray/\tl.length=(G-i)*7:=by
  refine ⟨(Builtin.zeroCells zv.cells (n+1-i)).toList++(Builtin.zeroCells zv.cells (G-(n+1))).toList,?_,?_⟩;·apply Array.toList_inj.1;simp
  rw [qaZ,Array.length_toList,Array.length_toList,hzl,hzl];omega
 obtain ⟨htl,htll⟩:=htl;rw [htl] at hrz;obtain ⟨ROW,hROW⟩:∃ROW:Array Value,ROW=((cs.take (i*7))++tl).toArray:=⟨_,rfl⟩;have hRl:(n+1)*7<=ROW.size:=by rw [hROW];simp only [List.size_toArray,qaZ,qaN,htll];omega
 rw [<-hROW] at hrz;obtain ⟨W1,hW1⟩:∃W1,W1=w.drew.alloc (.cells ROW 136):=⟨_,rfl⟩;rw [<-hW1] at hrz;have hN:∀j,j<(n+1)*7->(W1.cell? ⟨w.heap.size,j,none⟩).isSome=true:=fun j hj=>by rw [hW1,World.cell?_alloc_at (w:=w.drew) ROW _ w.heap.size j rfl,qa7 (by omega)];rfl
 have hNf:∀j,W1.frozen? ⟨w.heap.size,j,none⟩=false:=fun j=>by rw [hW1];exact World.frozen?_alloc_at (w:=w.drew) ROW _ w.heap.size j rfl
 have hOb:∀j v,w.cell? ⟨b,j,none⟩=some v->W1.cell? ⟨b,j,none⟩=some v:=fun j v h=>by rw [hW1,World.cell?_alloc_past (w:=w.drew) _ b j hbw];exact h
 have hOv:∀j v,w.cell? ⟨vb,j,none⟩=some v->W1.cell? ⟨vb,j,none⟩=some v:=fun j v h=>by rw [hW1,World.cell?_alloc_past (w:=w.drew) _ vb j hvw];exact h
 have hcpA:∀(W:World),(∀x,W.cell? x=W1.cell? x)->(∀x,W.frozen? x=W1.frozen? x)->∀ty dc,(Builtin.copy_ #[29,29] ty #[.slice (some ⟨w.heap.size,i*7,none⟩) (n+1-i) dc,.slice (some ⟨vb,voff,none⟩) 1 vc]).run Tryz.prog W=.ok (goInt (Nat.min 1 (n+1-i))) (W.setCells w.heap.size (i*7) vs):=fun W hWc hWf ty dc=>
  run_copy_k W _ _ ty 136 7 w.heap.size (i*7) (n+1-i) dc ⟨vb,voff,none⟩ 1 vc vs und35 info78 (by rw [hvl];simp only [Nat.min_def];split<;>omega)
   (fun j v hj=>by rw [Addr.add_lit,hWc];exact hOv _ v (hvs j v hj))
   (fun j hj=>by rw [hWc];exact hN _ (by omega)) (fun j hj=>by rw [hWf];exact hNf _) h1v
 have hGi:¬(G=i):=by omega
 have hGim:¬(G=i+1):=by omega
 have hci:¬(c=i):=by omega
 have hbN:b≠w.heap.size:=by omega
 have hdl:(cs.drop (i*7)).length=(n-i)*7:=by rw [qba,hcl];omega
 have hcpB:∀(W:World),(∀x,W.cell? x=(W1.setCells w.heap.size (i*7) vs).cell? x)->(∀x,W.frozen? x=(W1.setCells w.heap.size (i*7) vs).frozen? x)->∀ty dc sc,(Builtin.copy_ #[29,29] ty #[.slice (some ⟨w.heap.size,(i+1)*7,none⟩) (n-i) dc,.slice (some ⟨b,off+i*7,none⟩) (n-i) sc]).run Tryz.prog W=.ok (goInt (Nat.min (n-i) (n-i))) (W.setCells w.heap.size ((i+1)*7) (cs.drop (i*7))):=fun W hWc hWf ty dc sc=>
  run_copy_k W _ _ ty 136 7 w.heap.size ((i+1)*7) (n-i) dc ⟨b,off+i*7,none⟩ (n-i) sc (cs.drop (i*7)) und35 info78 (by rw [hdl];simp)
   (fun j v hj=>by rw [Addr.add_lit,hWc,World.cell?_setCells_out _ _ _ _ _ (fun h _=>absurd h hbN),Nat.add_assoc];exact hOb _ v (hcs (i*7+j) v (by rwa [qa8] at hj)))
   (fun j hj=>by rw [hWc];exact isSome_setCells _ _ _ _ (fun t ht=>hN _ (by omega)) _ (hN _ (by omega)))
   (fun j hj=>by rw [hWf,World.frozen?_setCells];exact hNf _) (fun v hv=>h1c v (List.mem_of_mem_drop hv))
 subst hW1;have hE1:∀x,((w.alloc (.cells ROW 136)).drew).cell? x=(w.drew.alloc (.cells ROW 136)).cell? x:=fun x=>rfl;have hE2:∀x,((w.alloc (.cells ROW 136)).drew).frozen? x=(w.drew.alloc (.cells ROW 136)).frozen? x:=fun x=>rfl;have hF1:∀x,(((w.alloc (.cells ROW 136)).drew.setCells w.heap.size (i*7) vs).drew).cell? x=((w.drew.alloc (.cells ROW 136)).setCells w.heap.size (i*7) vs).cell? x:=fun x=>rfl;have hF2:∀x,(((w.alloc (.cells ROW 136)).drew.setCells w.heap.size (i*7) vs).drew).frozen? x=((w.drew.alloc (.cells ROW 136)).setCells w.heap.size (i*7) vs).frozen? x:=fun x=>rfl;have hw1:IntKind.i64.wrap ((i:Int)+1)=(i:Int)+1:=by rw [IntKind.wrap_i64];omega
 have hb1:(0:Int)<=(i:Int)+1:=by omega
 have hin:i<=n:=by omega
 have htn:((i:Int)+1).toNat=i+1:=by omega
 have hb3:(i:Int)<=(n:Int):=by omega
 have mixed:Tryz.prog.follows .mixedOrders=true:=by kernel_rfl
 have hkeep:IsRow ROW ((cs.take (i*7))++tl):=hROW;clear hkk hik hold hRl htl hROW
 go_enter Tryz.func406,Tryz.ntmps406
 go_wp2_with (first
  |(at_builtin;refine Lib.wpList_append_run _ rfl _ _ _ _ rfl _ _ rfl rfl _ _ (hrz _) ?_)
  |(at_builtin;refine wpList_copy_runI _ rfl _ _ 29 29 rfl _ _ rfl rfl (hcpA _ hE1 hE2 _ _) ?_)
  |(at_builtin;refine wpList_copy_runI _ rfl _ _ 29 29 rfl _ _ rfl rfl (hcpB _ (fun _=>rfl) (fun _=>rfl) _ _ _) ?_))
 go_region_law_o (refine step_copy_runI rfl _ _ 29 29 rfl (.slice (some ⟨w.heap.size,(i+1)*7,none⟩) (n-i) (G-(i+1))) (.slice (some ⟨b,off+i*7,none⟩) (n-i) (c-i)) (by simp [Act.eval,Act.put]) (by simp [Act.eval,Act.put]) (hcpB _ hF1 hF2 3 (G-(i+1)) (c-i)) ?_)
 go_wp2
 go_ret
 exact ⟨G,tl,hGn,rfl,htll,by unfold IsRow at hkeep;rw [<-hkeep]⟩
section
variable {P:Program} {R:CodeRel} {K:Kn}
theorem post_move {w w':World}{c0 c':CB}{sz:Nat}{new:qbI}{res:X}(hI:Inv P R K [c0] [.row sz rows] w)(hf:FrameOk c0.owns w w')(hown:∀b o,c'.owns b o->c0.owns b o\/w.heap.size<=b)
  (hB:BoxOk P R K ([c0]++[c']) w' (.row sz new) c') (hres:Rep K ([c0]++[c']) res v):Post P R K [c0] [.row sz rows] w res [.dead,.row sz new] (.returned v) w':=by
 have hdead:∀b o,¬Owns [c0] [Bx.dead] b o:=by
  rintro b o ⟨i,c,B,h1,h2,h3,h4⟩
  cases i with
  |zero=>simp at h2;subst h2;simp [Bx.live] at h3
  |succ i=>simp at h2
 have hin:∀b o,c0.owns b o->Owns [c0] [Bx.row sz rows] b o:=fun b o h=>⟨0,c0,.row sz rows,rfl,rfl,rfl,h⟩;have hk:=hI.kill 0;have hk':Inv P R K [c0] [.dead] w':=Inv.frame hk hf (fun b o v e ho=>by have:=hI.apart b o (hin b o ho);rw [this] at e;cases e) (fun b o ho=>absurd ho (hdead b o));refine ⟨v,K,[c'],rfl,⟨hk'.push hB (fun b o ho=>?_) (fun b o _=>hdead b o),hres,KLe.refl _,fun b o u e=>.inl e,fun b o ho=>?_,hf.mono fun b o _ h=>hin b o h,fun i B e hl=>?_⟩⟩
 ·rcases hown b o ho with h|h;·exact hI.apart b o (hin b o h)
  cases hk:K b o with
  |none=>rfl
  |some u=>have:=hI.known_lt hk;omega
 ·obtain ⟨i,c,B,h1,h2,h3,h4⟩:=ho
  match i,h1,h2 with
  |0,h1,h2=>simp at h2;subst h2;simp [Bx.live] at h3
  |1,h1,h2=>
   simp at h1;subst h1;rcases hown b o h4 with h|h;·exact .inl (hin b o h)
   exact .inr h
  |i+2,h1,h2=>simp at h2
 cases i with
 |zero=>simp at e;subst e;cases hl
 |succ i=>simp at e
theorem splice_get (l vs:List Value)(o q:Nat)(h:o+vs.length<=l.length):(l.take o++vs++l.drop (o+vs.length)).toArray[q]?=if q<o then l[q]? else if q<o+vs.length then vs[q-o]? else l[q]?:=by
 have hT:(l.take o).length=o:=by rw [qaN];omega
 rw [List.getElem?_toArray];by_cases h5:q<o;·rw [if_pos h5,qbj,qa6 (by omega),qbb,if_pos h5]
 rw [if_neg h5,qbj,qbf (by omega),hT];by_cases h6:q<o+vs.length;·rw [if_pos h6,qa6 (by omega)]
 rw [if_neg h6,qbf (by omega),qa8]
 congr 1;omega
theorem setCells_row (W:World)(b o:Nat)(arr:Array Value)(el:TypeId)(vs:List Value)(hb:W.heap[b]?=some (.cells arr el (0,0)))(hl:o+vs.length<=arr.size)(h1:∀v∈vs,v.oneCell'=true):
  W.setCells b o vs=W.setRow b (arr.toList.take o++vs++arr.toList.drop (o+vs.length)).toArray:=by
 have hc:∀j,j<vs.length->(W.cell? ⟨b,o+j,none⟩).isSome=true:=fun j hj=>by simp only [World.cell?,hb];rw [qa7 (by omega)];rfl
 have hf:∀j,j<vs.length->W.frozen? ⟨b,o+j,none⟩=false:=fun j hj=>by simp [World.frozen?,hb]
 have e1:=run_storeCells_cells (P:=Tryz.prog) b o vs 0 W (by simpa using hc) (by simpa using hf) h1;have e2:=run_storeCells_at Tryz.prog b o el vs 0 arr W hb (by omega) h1;rw [e1] at e2;simp only [Nat.add_zero] at e2;injection e2
theorem ins_flat {K:Kn}{x:List X}(hf:Flat K 7 rows cs)(hv:Flat K 7 [x] vs)(i:Nat):Flat K 7 (rows.take i++[x]++rows.drop i) (cs.take (i*7)++vs++cs.drop (i*7)):=
 ((hf.take i).append hv).append (hf.drop i)
theorem ins_get {n i k:Nat}(hcl:cs.length=n*7)(hvl:vs.length=7)(hi:i<=n)(h:(cs.take (i*7)++vs++cs.drop (i*7))[k]?=some v):
  (k<i*7/\cs[k]?=some v)\/(i*7<=k/\k<(i+1)*7/\vs[k-i*7]?=some v)\/((i+1)*7<=k/\k<(n+1)*7/\cs[k-7]?=some v):=by
 have hT:(cs.take (i*7)).length=i*7:=by rw [qaN];omega
 by_cases h1:k<i*7;·rw [qbj,qa6 (by omega),qbb,if_pos h1] at h;exact .inl ⟨h1,h⟩
 rw [qbj,qbf (by omega),hT] at h;by_cases h2:k<(i+1)*7;·rw [qa6 (by omega)] at h;exact .inr (.inl ⟨by omega,h2,h⟩)
 rw [qbf (by omega),qa8] at h;have e:i*7+(k-i*7-vs.length)=k-7:=by omega
 rw [e] at h;have:=(qaY.1 h).1;exact .inr (.inr ⟨by omega,by omega,h⟩)
set_option maxRecDepth 100000 in
theorem ins_sem {R:CodeRel}(n i:Nat)(t:Bool)(x:List X)(rows:qbI)(hi:i<=n)(hn:n=rows.length)(hn2:n<=2000000):
  FSem Tryz.prog R 406 [.bs 0 0 n,.v (.int .i64 (Int.ofNat i)),.sl t 7 [x]] [.row 7 rows] (.bs 1 0 (n+1)) [.dead,.row 7 (rows.take i++[x]++rows.drop i)]:=by
 intro K C w cargs hI ha;have hs:cargs.size=3:=ha.1;have r0:=ha.2 0 _ cargs[0] rfl (qa7 (by omega));have r1:=ha.2 1 _ cargs[1] rfl (qa7 (by omega));have r2:=ha.2 2 _ cargs[2] rfl (qa7 (by omega));have hca:cargs=#[cargs[0],cargs[1],cargs[2]]:=by
  refine Array.ext (by simp [hs]) fun j h1 h2=>?_
  match j,h1,h2 with
  |0,_,_=>rfl
  |1,_,_=>rfl
  |2,_,_=>rfl
  |j+3,h1,_=>omega
 rw [hca];generalize cargs[0]=v0 at r0;generalize cargs[1]=v1 at r1;generalize cargs[2]=v2 at r2;obtain rfl:=rep_v r1;obtain ⟨c0,hC⟩:∃c0,C=[c0]:=by
  have:=hI.size
  match C,this with
  |[c0],_=>exact ⟨c0,rfl⟩
 subst hC;obtain ⟨vb,vo,c2,rfl⟩:∃vb vo c2,v2=.slice (some ⟨vb,vo,none⟩) 1 c2:=by
  generalize hx:X.sl t 7 [x]=y at r2;cases r2<;>try cases hx
  exact ⟨_,_,_,rfl⟩
 obtain ⟨vs,hv,hvK⟩:=r2.flat;have hvl:vs.length=7:=by simpa using hv.len
 have hvs:∀j v,vs[j]?=some v->w.cell? ⟨vb,vo+j,none⟩=some v:=fun j v h=>hI.known _ _ _ (hvK j v h);have h1v:=hv.oneCell;obtain ⟨tA,kA,hsa,hkA⟩:∃tA kA,w.shape? vb=some (tA,kA)/\kA≠0:=by
  have h0:=hvs 0 _ (qa3 (by omega));unfold World.cell? at h0;split at h0;next arr el fr hh=>refine ⟨el,arr.size,by simp [World.shape?,hh],fun e=>?_⟩;have:=(qbA.1 h0).1;omega
  cases h0
 have hvfc:∀w':World,w'.heap=w.heap->(Builtin.firstCells 7 1 (.slice (some ⟨vb,vo,none⟩) 1 c2)).run Tryz.prog w'=.ok vs.toArray w':=fun w' hw=>by refine run_firstCells_some w' 7 1 ⟨vb,vo,none⟩ 1 c2 vs (by omega) (fun j u hu=>?_);rw [Addr.add_lit];have:=hvs j u hu;simp only [World.cell?,hw] at this ⊢;exact this
 have hz78:(zeroP Tryz.prog 136).isSome=true:=by kernel_rfl
 obtain ⟨z78,hz78⟩:=Option.isSome_iff_exists.1 hz78;have hs78:sizeP Tryz.prog 136=some 7:=by kernel_rfl
 have hb78:bytesP Tryz.prog 136=some 104:=by kernel_rfl
 have endGrow:∀(ob:Option Addr) (c:Nat) (olds:List Value),i=n->n<=c->c<n+1->(ob=none->n=0/\c=0)->Flat K 7 rows olds->(∀w':World,w'.heap=w.heap->(Builtin.firstCells 7 n (.slice ob n c)).run Tryz.prog w'=.ok olds.toArray w')->
   Calls Tryz.prog 406 #[.slice ob n c,.int .i64 (Int.ofNat i),.slice (some ⟨vb,vo,none⟩) 1 c2] w (Post Tryz.prog R K [c0] [.row 7 rows] w (.bs 1 0 (n+1)) [.dead,.row 7 (rows.take i++[x]++rows.drop i)]):=by
  intro ob c olds hin hnc hcn hnil hfo hfco;subst hin;have hex:∃rest:List Value,(∀ty,(Builtin.append_ #[29,29] ty #[.slice ob i c,.slice (some ⟨vb,vo,none⟩) 1 c2]).run Tryz.prog w=.ok (.slice (some ⟨w.heap.size,0,none⟩) (i+1) (grownCap w (i+1) c 136)) (w.drew.alloc (.cells (olds++vs++rest).toArray 136)))/\rest.length=(grownCap w (i+1) c 136-(i+1))*7:=by obtain ⟨rest,h1,h2⟩:=run_app_grow (P:=Tryz.prog) (w:=w) (ty:=0) (ob:=ob) (oc:=some ⟨vb,vo,none⟩) (n:=i) (cap:=c) (m:=1) (c:=c2) und35 und35 hs78 hb78 hz78 olds vs hfco hvfc hcn (by omega) (by omega) (by omega);exact ⟨rest,fun ty=>h1,h2⟩
  obtain ⟨rest,hrun,hrl⟩:=hex;have hm:=grownCap_ge w (i+1) c 136;generalize grownCap w (i+1) c 136=m at hrun hrl hm;refine (ins_end ob i c vb vo c2 w _ _ hnc hn2 hnil hrun).mono ?_
  rintro e w' ⟨rfl,rfl⟩
  have hfl:=hfo.append hv;have e1:rows.take i++[x]++rows.drop i=rows++[x]:=by rw [hn,List.take_length,List.drop_length,List.append_nil]
  rw [e1];have hol:olds.length=i*7:=by rw [hfo.len,<-hn]
  have hsz:(olds++vs++rest).toArray.size=m*7:=by simp only [List.size_toArray,qaZ,hol,hvl,hrl];omega
  refine post_move (c':=.at w.heap.size 0 (m*7) 7) hI (FrameOk.trans (FrameOk.drew _ w) (FrameOk.alloc (S:=c0.owns) _ _) (fun _ _ _ h=>h)) (fun b o h=>.inr (by rw [h.1];exact Nat.le_refl _)) (hfl.box (alloc_get w.drew _) (fun k v hk=>?_) (by simp only [qaZ,List.length_singleton];omega) (by omega)) ?_;·rw [Nat.zero_add,List.getElem?_toArray,qa6 (qaY.1 hk).1];exact hk
  have:=@Rep.bs K ([c0]++[.at w.heap.size 0 (m*7) 7]) 1 0 (i+1) w.heap.size 0 (m*7) 7 m rfl (by omega) (by omega);simpa using this
 generalize hx0:X.bs 0 0 n=y0 at r0;cases r0<;>try cases hx0
 case bsNil ob hc=>
  have e0:c0=.ghost:=by simpa using hc
  subst e0;have hi0:i=0:=by omega
  have hr0:rows=[]:=qbx hn.symm;refine endGrow ob 0 [] hi0 (Nat.le_refl _) (by omega) (fun _=>⟨rfl,rfl⟩) (by rw [hr0];exact Flat.nil) (fun w' _=>?_);cases ob<;>simp [Builtin.firstCells,loadCells,loadCellsFrom]
 case bs b base hi' sz cap hc hcap hlen=>
  have e0:c0=.at b base hi' sz:=by simpa using hc
  subst e0;obtain ⟨arr,el,g1,g2,g3,hbl,hfe⟩:=(hI.box 0 _ _ rfl rfl).flat;subst g1;simp only [Nat.zero_mul,Nat.zero_add,Nat.add_zero] at hcap ⊢;generalize hcd:(arr.toList.drop base).take (rows.length*7)=cs at hfe;have hcl:cs.length=n*7:=by rw [hfe.len,<-hn]
  have hcar:∀j v,cs[j]?=some v->arr[base+j]?=some v:=fun j v h=>by
   rw [<-hcd,qbb] at h;split at h;·rw [qa8] at h;simpa using h
   cases h
  have hcs:∀j v,cs[j]?=some v->w.cell? ⟨b,base+j,none⟩=some v:=fun j v h=>by simp only [World.cell?,hbl];exact hcar j v h
  have h1c:=hfe.oneCell;have hnk:∀o,base<=o->o<hi'->K b o=none:=fun o h1 h2=>hI.apart b o ⟨0,_,_,rfl,rfl,rfl,⟨rfl,h1,h2⟩⟩;have hfz:∀o,w.frozen? ⟨b,o,none⟩=false:=fun o=>by simp [World.frozen?,hbl]
  have hflat:=ins_flat hfe hv i;by_cases hin:i=n
  ·by_cases hfit:n+1<=cap
   ·subst hin;have hst:=run_storeCells_at Tryz.prog b (base+i*7) el vs 0 arr w hbl (by omega) h1v;simp only [Nat.add_zero] at hst;have hrun:∀ty,(Builtin.append_ #[29,29] ty #[.slice (some ⟨b,base,none⟩) i cap,.slice (some ⟨vb,vo,none⟩) 1 c2]).run Tryz.prog w=.ok (.slice (some ⟨b,base,none⟩) (i+1) cap) (w.setRow b (arr.toList.take (base+i*7)++vs++arr.toList.drop (base+i*7+vs.length)).toArray):=fun ty=>run_app_fit (P:=Tryz.prog) (ty:=ty) (ob:=some ⟨b,base,none⟩) und35 und35 hs78 vs _ (hvfc w rfl) hfit (fun ad e=>by cases e;rw [Addr.add_lit];exact hst) (fun e=>by cases e);refine (ins_end _ i cap vb vo c2 w _ _ (by omega) hn2 (fun e=>by cases e) hrun).mono ?_
    rintro e w' ⟨rfl,rfl⟩
    have hget:∀q,(arr.toList.take (base+i*7)++vs++arr.toList.drop (base+i*7+vs.length)).toArray[q]?=if q<base+i*7 then arr[q]? else if q<base+i*7+vs.length then vs[q-(base+i*7)]? else arr[q]?:=fun q=>by rw [splice_get _ _ _ _ (by have:arr.toList.length=arr.size:=Array.length_toList;omega)];simp
    have hsize:(arr.toList.take (base+i*7)++vs++arr.toList.drop (base+i*7+vs.length)).toArray.size=arr.size:=by simp;omega
    generalize (arr.toList.take (base+i*7)++vs++arr.toList.drop (base+i*7+vs.length)).toArray=arr' at hget hsize;refine post_move (c':=.at b base hi' 7) hI (FrameOk.setRow hbl hsize fun q hq=>?_) (fun b' o' h=>.inl h) (hflat.box (setRow_heap w b arr arr' el _ hbl) (fun k v hk=>?_) (by rw [hflat.len.symm.trans (by simp;omega:_=(i+1)*7)];omega) (by omega)) ?_
    ·rw [hget];have hout:¬(base<=q/\q<hi'):=fun hh=>hq ⟨rfl,hh.1,hh.2⟩;by_cases h5:q<base+i*7;·rw [if_pos h5]
     rw [if_neg h5,if_neg (by omega)]
    ·rw [hget];rcases ins_get hcl hvl (Nat.le_refl _) hk with ⟨h1,h2⟩|⟨h1,h2,h3⟩|⟨h1,h2,h3⟩;·rw [if_pos (by omega)];exact hcar k v h2
     ·rw [if_neg (by omega),if_pos (by omega),<-h3];congr 1;omega
     omega
    have:=@Rep.bs K ([.at b base hi' 7]++[.at b base hi' 7]) 1 0 (i+1) b base hi' 7 cap rfl (by omega) hfit;simpa using this
   refine endGrow (some ⟨b,base,none⟩) cap cs hin (by omega) (by omega) (fun e=>by cases e) hfe (fun w' hw=>?_);refine run_firstCells_some w' 7 n ⟨b,base,none⟩ n cap cs (by omega) (fun j u hu=>?_);rw [Addr.add_lit];have:=hcs j u hu;simp only [World.cell?,hw] at this ⊢;exact this
  have hil:i<n:=by omega
  by_cases hfit:n+1<=cap
  ·have hlb:arr.toList.length=arr.size:=Array.length_toList;have hsh:w.shape? b=some (el,arr.size):=by simp [World.shape?,hbl]
   refine (ins_shift b base n cap i vb vo c2 cs vs w hil hfit hn2 (fun j k hj hk e hne=>?_) hcl hvl hcs (fun j hj=>?_) (fun j _=>hfz _) hvs h1c h1v tA el kA arr.size hsa hsh (by omega) hkA hfz).mono ?_;·have hk1:=hvK j _ (qa3 (by omega));rw [e,hne,hnk _ (by omega) (by omega)] at hk1;cases hk1
   ·simp only [World.cell?,hbl];rw [qa7 (by omega)];rfl
   rintro e w' ⟨rfl,rfl⟩
   have hdl:(cs.drop (i*7)).length=(n-i)*7:=by rw [qba,hcl];omega
   have hbl2:w.drew.heap[b]?=some (.cells arr el (0,0)):=hbl;rw [setCells_row w.drew b _ arr el _ hbl2 (by omega) (fun v hv'=>h1c v (List.mem_of_mem_drop hv'))];have hget1:=fun q=>splice_get arr.toList (cs.drop (i*7)) (base+(i+1)*7) q (by omega);have hsz1:(arr.toList.take (base+(i+1)*7)++cs.drop (i*7)++arr.toList.drop (base+(i+1)*7+(cs.drop (i*7)).length)).toArray.size=arr.size:=by simp only [List.size_toArray,qaZ,qaN,qba,hlb];omega
   generalize (arr.toList.take (base+(i+1)*7)++cs.drop (i*7)++arr.toList.drop (base+(i+1)*7+(cs.drop (i*7)).length)).toArray=arr1 at hget1 hsz1 ⊢;have hb1:=setRow_heap w.drew b arr arr1 el (0,0) hbl2;have hlb1:arr1.toList.length=arr1.size:=Array.length_toList;rw [setCells_row _ b _ arr1 el _ hb1 (by omega) h1v];have hget2:=fun q=>splice_get arr1.toList vs (base+i*7) q (by omega);have hsz2:(arr1.toList.take (base+i*7)++vs++arr1.toList.drop (base+i*7+vs.length)).toArray.size=arr1.size:=by simp only [List.size_toArray,qaZ,qaN,qba,hlb1];omega
   generalize (arr1.toList.take (base+i*7)++vs++arr1.toList.drop (base+i*7+vs.length)).toArray=arr2 at hget2 hsz2 ⊢;have hb2:=setRow_heap _ b arr1 arr2 el (0,0) hb1;simp only [Array.getElem?_toList] at hget1 hget2;refine post_move (c':=.at b base hi' 7) hI (FrameOk.trans (FrameOk.drew _ w) (FrameOk.trans (FrameOk.setRow hbl2 hsz1 fun q hq=>?_) (FrameOk.setRow (S:=(CB.at b base hi' 7).owns) hb1 hsz2 fun q hq=>?_) (fun _ _ _ h=>h)) (fun _ _ _ h=>h)) (fun b' o' h=>.inl h) (hflat.box hb2 (fun k v hk=>?_) ?_ (by omega)) ?_
   ·rw [hget1];have hout:¬(base<=q/\q<hi'):=fun hh=>hq ⟨rfl,hh.1,hh.2⟩;by_cases h5:q<base+(i+1)*7;·rw [if_pos h5]
    rw [if_neg h5,if_neg (by omega)]
   ·rw [hget2];have hout:¬(base<=q/\q<hi'):=fun hh=>hq ⟨rfl,hh.1,hh.2⟩;by_cases h5:q<base+i*7;·rw [if_pos h5]
    rw [if_neg h5,if_neg (by omega)]
   ·rw [hget2];rcases ins_get hcl hvl hi hk with ⟨h1,h2⟩|⟨h1,h2,h3⟩|⟨h1,h2,h3⟩;·rw [if_pos (by omega),hget1,if_pos (by omega)];exact hcar k v h2
    ·rw [if_neg (by omega),if_pos (by omega),<-h3];congr 1;omega
    rw [if_neg (by omega),if_neg (by omega),hget1,if_neg (by omega),if_pos (by omega),qa8,<-h3];congr 1;omega
   ·have:=hflat.len;simp only [qaZ,qaN,qba,List.length_singleton];omega
   have:=@Rep.bs K ([.at b base hi' 7]++[.at b base hi' 7]) 1 0 (n+1) b base hi' 7 cap rfl (by omega) hfit;simpa using this
  refine (ins_grow b base n cap i vb vo c2 cs vs w hil (by omega) (by omega) (by omega) hcl hvl hcs hvs h1c h1v).mono ?_
  rintro e w' ⟨G,tl,hG,rfl,htl,rfl⟩
  have hdl:(cs.drop (i*7)).length=(n-i)*7:=by rw [qba,hcl];omega
  have hTl:(cs.take (i*7)).length=i*7:=by rw [qaN];omega
  generalize hA:(cs.take (i*7)++tl).toArray=A;have hAs:A.size=G*7:=by rw [<-hA,List.size_toArray,qaZ,hTl,htl];omega
  have hlA:A.toList.length=A.size:=Array.length_toList;have hb0:(w.alloc (.cells A 136)).drew.heap[w.heap.size]?=some (.cells A 136 (0,0)):=alloc_get w _;rw [setCells_row _ _ _ A 136 _ hb0 (by omega) h1v];have hget1:=fun q=>splice_get A.toList vs (i*7) q (by omega);have hsz1:(A.toList.take (i*7)++vs++A.toList.drop (i*7+vs.length)).toArray.size=A.size:=by simp only [List.size_toArray,qaZ,qaN,qba,hlA];omega
  generalize (A.toList.take (i*7)++vs++A.toList.drop (i*7+vs.length)).toArray=arr1 at hget1 hsz1 ⊢;have hb1:=setRow_heap _ w.heap.size A arr1 136 (0,0) hb0;have hlb1:arr1.toList.length=arr1.size:=Array.length_toList;have hb1':((w.alloc (.cells A 136)).drew.setRow w.heap.size arr1).drew.heap[w.heap.size]?=some (.cells arr1 136 (0,0)):=hb1;rw [setCells_row _ _ _ arr1 136 _ hb1' (by omega) (fun v hv'=>h1c v (List.mem_of_mem_drop hv'))];have hget2:=fun q=>splice_get arr1.toList (cs.drop (i*7)) ((i+1)*7) q (by omega);have hsz2:(arr1.toList.take ((i+1)*7)++cs.drop (i*7)++arr1.toList.drop ((i+1)*7+(cs.drop (i*7)).length)).toArray.size=arr1.size:=by simp only [List.size_toArray,qaZ,qaN,qba,hlb1];omega
  generalize (arr1.toList.take ((i+1)*7)++cs.drop (i*7)++arr1.toList.drop ((i+1)*7+(cs.drop (i*7)).length)).toArray=arr2 at hget2 hsz2 ⊢;have hb2:=setRow_heap _ w.heap.size arr1 arr2 136 (0,0) hb1';simp only [Array.getElem?_toList] at hget1 hget2;have hfr:FrameOk (CB.at b base hi' 7).owns w (((w.alloc (.cells A 136)).drew.setRow w.heap.size arr1).drew.setRow w.heap.size arr2):=by
   have f1:FrameOk (fun p _=>p=w.heap.size) w (((w.alloc (.cells A 136)).drew.setRow w.heap.size arr1).drew.setRow w.heap.size arr2):=
    FrameOk.trans (FrameOk.alloc (S:=fun p _=>p=w.heap.size) w _) (FrameOk.trans (FrameOk.drew _ _) (FrameOk.trans (FrameOk.setRow hb0 hsz1 fun q hq=>absurd rfl hq) (FrameOk.trans (FrameOk.drew _ _) (FrameOk.setRow hb1' hsz2 fun q hq=>absurd rfl hq) (fun _ _ _ h=>h)) (fun _ _ _ h=>h)) (fun _ _ _ h=>h)) (fun _ _ _ h=>h)
   exact f1.mono fun p o hp h=>by omega
  refine post_move (c':=.at w.heap.size 0 (G*7) 7) hI hfr (fun b' o' h=>.inr (by rw [h.1];exact Nat.le_refl _)) (hflat.box hb2 (fun k v hk=>?_) ?_ (by omega)) ?_
  ·rw [Nat.zero_add,hget2];rcases ins_get hcl hvl hi hk with ⟨h1,h2⟩|⟨h1,h2,h3⟩|⟨h1,h2,h3⟩;·rw [if_pos (by omega),hget1,if_pos (by omega),<-hA,List.getElem?_toArray,qa6 (by omega),qbb,if_pos h1];exact h2
   ·rw [if_pos (by omega),hget1,if_neg (by omega),if_pos (by omega)];exact h3
   rw [if_neg (by omega),if_pos (by omega),qa8,<-h3];congr 1;omega
  ·simp only [qaZ,qaN,qba,List.length_singleton];omega
  have:=@Rep.bs K ([.at b base hi' 7]++[.at w.heap.size 0 (G*7) 7]) 1 0 (n+1) w.heap.size 0 (G*7) 7 G rfl (by omega) (by omega);simpa using this
end
end Go.Proofs.YtonnphbfclaigaaGreatDoor.If
namespace Go.Proofs.YtonnphbfclaigaaGreatDoor
open Go.Em Go.RowKit Go.Lib
theorem tabOk0:TabOk Tryz.prog gl tab:=by
 intro f fd h;unfold tab at h;split at h;·exact ⟨_,h⟩
 cases h
def ext0:Ext:=fun _=>none
theorem machine0 (n:Nat):GamOk Tryz.prog (RCode Tryz.prog gl) (callF tab ext0 n):=callF_ok tabOk0 (fun _ _ h=>by cases h) n
theorem roomC {n b:Nat}(h:n<=1000000)(hb:b<=1000):roomOk n b=true:=by have:n*b<=1000000*1000:=Nat.mul_le_mul h hb;simp only [roomOk,qa4,qbu];omega
section
theorem clI555:(Tryz.prog.info? 9).map (fun i=>(i.zero.map (·.cells.size),i.size,i.bytes))=some (some 1,1,16):=by kernel_rfl
theorem clU555:Tryz.prog.underlying 48=some (.slice 9):=by kernel_rfl
set_option maxHeartbeats 1000000 in
theorem clN555 (n c:Nat)(w:World):Calls Tryz.prog 555 #[.slice none n c] w fun e w'=>e=.returned (.slice none 0 0)/\w'=w:=by
 have mixed:Tryz.prog.follows .mixedOrders=true:=by kernel_rfl
 have q:∀(w:World) (a:Option Addr) (n c n' c':Nat),(binOp .eql 48 (.slice a n c) (.slice none n' c')).run Tryz.prog w=.ok (.bool a.isNone) w:=fun w a n c n' c'=>Lib.run_eql_slice_nil w _ _ a n c n' c' clU555
 go_enter Tryz.func555,Tryz.ntmps555
 go_wp2
 go_ret
 exact ⟨rfl,rfl⟩
set_option maxHeartbeats 2000000 in
set_option maxRecDepth 100000 in
theorem clZ555 (a:Addr)(c:Nat)(w:World):Calls Tryz.prog 555 #[.slice (some a) 0 c] w fun e w'=>∃v',e=.returned v'/\w'.ownsRow w.heap.size 9 1 v' 0 []/\Below w.heap.size w w':=by
 have mixed:Tryz.prog.follows .mixedOrders=true:=by kernel_rfl
 obtain ⟨i0,hi,hzz⟩:=qa1.1 clI555;simp only [qaH] at hzz;obtain ⟨hz0,hz1,hz2⟩:=hzz;obtain ⟨z,hz,hzs⟩:=qa1.1 hz0;have q:∀(w:World) (a:Option Addr) (n c n' c':Nat),(binOp .eql 48 (.slice a n c) (.slice none n' c')).run Tryz.prog w=.ok (.bool a.isNone) w:=fun w a n c n' c'=>Lib.run_eql_slice_nil w _ _ a n c n' c' clU555;have u:∀w,Sem.run Tryz.prog (underlying 48) w=.ok (TypeDesc.slice 9) w:=run_underlying clU555
 go_enter Tryz.func555,Tryz.ntmps555
 go_wp2_with (at_builtin;refine wpList_append_own _ rfl _ _ 48 rfl w.heap.size 9 i0 z 1 16 clU555 hi hz hz1 hz2 hzs (by decide) _ _ _ rfl (World.ownsRow_made w #[] 0 (Nat.le_refl _) (Nat.zero_le _) rfl) a 0 c [] rfl rfl (by intro j u hj;simp at hj) (by intro u hu;cases hu) (by unfold maxLen;omega) (by omega) (by simp) ?_)
 intro v' w1 hown hgrow hnil
 go_wp2
 go_ret
 refine ⟨v',rfl,by simpa using hown,?_⟩;exact ((Below.refl _ w).alloc (Nat.le_refl _) _).grown hgrow (by simp) (by intro k hk;simp [Value.ownBlock] at hk;omega)
theorem clM555 (e:List X)(r:qbI)(t:Bool)(N:Nat)(h:(e::r).length<=1000000):callF tab ext0 (N+1) (.fn 555) [.sl t 1 (e::r)] []=some (.bs 0 0 (e::r).length,[.row 1 (e::r)]):=by have:=callF_of (T:=tab) (ext:=ext0) (N:=N) (f:=555) (args:=[.sl t 1 (e::r)]) (inb:=[]) (r:=some (.bs 0 0 (0+(e::r).length),[.row 1 ([]++(e::r))])) [(7,.fresh)] [] (pf1 (a:=(e::r).isEmpty=false/\roomOk (0+(e::r).length) 16=true) ⟨rfl,by rw [Nat.zero_add];exact roomC h (by decide)⟩) (by kernel_rfl);rw [Nat.zero_add,qbp] at this;exact this
theorem cl_sem555 (t:Bool)(es:qbI)(h:es.length<=1000000):FSem Tryz.prog (RCode Tryz.prog gl) 555 [.sl t 1 es] [] (.bs 0 0 es.length) [.row 1 es]:=by
 cases es with
 |cons e r=>exact ((machine0 1).fn _ _ _ _ _ (clM555 e r t 0 h)).2
 |nil=>
  intro K C w cargs hI ha;have hs:cargs.size=1:=ha.1;have r0:=ha.2 0 _ cargs[0] rfl (qa7 (by omega));have hca:cargs=#[cargs[0]]:=by
   refine Array.ext (by simp [hs]) fun i h1 h2=>?_
   match i,h1,h2 with
   |0,_,_=>rfl
   |i+1,h1,_=>omega
  rw [hca];generalize cargs[0]=v at r0;have key:Calls Tryz.prog 555 #[v] w fun e w'=>∃v',e=.returned v'/\w'.ownsRow w.heap.size 9 1 v' 0 []/\Below w.heap.size w w':=by
   generalize hx:X.sl t 1 []=x at r0;cases r0<;>try cases hx
   case slNil ob=>
    cases ob with
    |none=>
     refine (clN555 0 0 w).mono ?_
     rintro e w' ⟨rfl,rfl⟩
     exact ⟨_,rfl,World.ownsRow_nil _ _ _ _,Below.refl _ _⟩
    |some a=>exact clZ555 a 0 w
   case sl=>exact clZ555 _ _ w
  exact fsem_none (inb:=[]) (args:=[]) hI key
end
section
theorem clI276:(Tryz.prog.info? 33).map (fun i=>(i.zero.map (·.cells.size),i.size,i.bytes))=some (some 10,10,152):=by kernel_rfl
theorem clU276:Tryz.prog.underlying 39=some (.slice 33):=by kernel_rfl
set_option maxHeartbeats 1000000 in
theorem clN276 (n c:Nat)(w:World):Calls Tryz.prog 276 #[.slice none n c] w fun e w'=>e=.returned (.slice none 0 0)/\w'=w:=by
 have mixed:Tryz.prog.follows .mixedOrders=true:=by kernel_rfl
 have q:∀(w:World) (a:Option Addr) (n c n' c':Nat),(binOp .eql 39 (.slice a n c) (.slice none n' c')).run Tryz.prog w=.ok (.bool a.isNone) w:=fun w a n c n' c'=>Lib.run_eql_slice_nil w _ _ a n c n' c' clU276
 go_enter Tryz.func276,Tryz.ntmps276
 go_wp2
 go_ret
 exact ⟨rfl,rfl⟩
set_option maxHeartbeats 2000000 in
set_option maxRecDepth 100000 in
theorem clZ276 (a:Addr)(c:Nat)(w:World):Calls Tryz.prog 276 #[.slice (some a) 0 c] w fun e w'=>∃v',e=.returned v'/\w'.ownsRow w.heap.size 33 10 v' 0 []/\Below w.heap.size w w':=by
 have mixed:Tryz.prog.follows .mixedOrders=true:=by kernel_rfl
 obtain ⟨i0,hi,hzz⟩:=qa1.1 clI276;simp only [qaH] at hzz;obtain ⟨hz0,hz1,hz2⟩:=hzz;obtain ⟨z,hz,hzs⟩:=qa1.1 hz0;have q:∀(w:World) (a:Option Addr) (n c n' c':Nat),(binOp .eql 39 (.slice a n c) (.slice none n' c')).run Tryz.prog w=.ok (.bool a.isNone) w:=fun w a n c n' c'=>Lib.run_eql_slice_nil w _ _ a n c n' c' clU276;have u:∀w,Sem.run Tryz.prog (underlying 39) w=.ok (TypeDesc.slice 33) w:=run_underlying clU276
 go_enter Tryz.func276,Tryz.ntmps276
 go_wp2_with (at_builtin;refine wpList_append_own _ rfl _ _ 39 rfl w.heap.size 33 i0 z 10 152 clU276 hi hz hz1 hz2 hzs (by decide) _ _ _ rfl (World.ownsRow_made w #[] 0 (Nat.le_refl _) (Nat.zero_le _) rfl) a 0 c [] rfl rfl (by intro j u hj;simp at hj) (by intro u hu;cases hu) (by unfold maxLen;omega) (by omega) (by simp) ?_)
 intro v' w1 hown hgrow hnil
 go_wp2
 go_ret
 refine ⟨v',rfl,by simpa using hown,?_⟩;exact ((Below.refl _ w).alloc (Nat.le_refl _) _).grown hgrow (by simp) (by intro k hk;simp [Value.ownBlock] at hk;omega)
theorem clM276 (e:List X)(r:qbI)(t:Bool)(N:Nat)(h:(e::r).length<=1000000):callF tab ext0 (N+1) (.fn 276) [.sl t 10 (e::r)] []=some (.bs 0 0 (e::r).length,[.row 10 (e::r)]):=by have:=callF_of (T:=tab) (ext:=ext0) (N:=N) (f:=276) (args:=[.sl t 10 (e::r)]) (inb:=[]) (r:=some (.bs 0 0 (0+(e::r).length),[.row 10 ([]++(e::r))])) [(7,.fresh)] [] (pf1 (a:=(e::r).isEmpty=false/\roomOk (0+(e::r).length) 152=true) ⟨rfl,by rw [Nat.zero_add];exact roomC h (by decide)⟩) (by kernel_rfl);rw [Nat.zero_add,qbp] at this;exact this
theorem cl_sem276 (t:Bool)(es:qbI)(h:es.length<=1000000):FSem Tryz.prog (RCode Tryz.prog gl) 276 [.sl t 10 es] [] (.bs 0 0 es.length) [.row 10 es]:=by
 cases es with
 |cons e r=>exact ((machine0 1).fn _ _ _ _ _ (clM276 e r t 0 h)).2
 |nil=>
  intro K C w cargs hI ha;have hs:cargs.size=1:=ha.1;have r0:=ha.2 0 _ cargs[0] rfl (qa7 (by omega));have hca:cargs=#[cargs[0]]:=by
   refine Array.ext (by simp [hs]) fun i h1 h2=>?_
   match i,h1,h2 with
   |0,_,_=>rfl
   |i+1,h1,_=>omega
  rw [hca];generalize cargs[0]=v at r0;have key:Calls Tryz.prog 276 #[v] w fun e w'=>∃v',e=.returned v'/\w'.ownsRow w.heap.size 33 10 v' 0 []/\Below w.heap.size w w':=by
   generalize hx:X.sl t 10 []=x at r0;cases r0<;>try cases hx
   case slNil ob=>
    cases ob with
    |none=>
     refine (clN276 0 0 w).mono ?_
     rintro e w' ⟨rfl,rfl⟩
     exact ⟨_,rfl,World.ownsRow_nil _ _ _ _,Below.refl _ _⟩
    |some a=>exact clZ276 a 0 w
   case sl=>exact clZ276 _ _ w
  exact fsem_none (inb:=[]) (args:=[]) hI key
end
section
theorem clI277:(Tryz.prog.info? 31).map (fun i=>(i.zero.map (·.cells.size),i.size,i.bytes))=some (some 6,6,88):=by kernel_rfl
theorem clU277:Tryz.prog.underlying 28=some (.slice 31):=by kernel_rfl
set_option maxHeartbeats 1000000 in
theorem clN277 (n c:Nat)(w:World):Calls Tryz.prog 277 #[.slice none n c] w fun e w'=>e=.returned (.slice none 0 0)/\w'=w:=by
 have mixed:Tryz.prog.follows .mixedOrders=true:=by kernel_rfl
 have q:∀(w:World) (a:Option Addr) (n c n' c':Nat),(binOp .eql 28 (.slice a n c) (.slice none n' c')).run Tryz.prog w=.ok (.bool a.isNone) w:=fun w a n c n' c'=>Lib.run_eql_slice_nil w _ _ a n c n' c' clU277
 go_enter Tryz.func277,Tryz.ntmps277
 go_wp2
 go_ret
 exact ⟨rfl,rfl⟩
set_option maxHeartbeats 2000000 in
set_option maxRecDepth 100000 in
theorem clZ277 (a:Addr)(c:Nat)(w:World):Calls Tryz.prog 277 #[.slice (some a) 0 c] w fun e w'=>∃v',e=.returned v'/\w'.ownsRow w.heap.size 31 6 v' 0 []/\Below w.heap.size w w':=by
 have mixed:Tryz.prog.follows .mixedOrders=true:=by kernel_rfl
 obtain ⟨i0,hi,hzz⟩:=qa1.1 clI277;simp only [qaH] at hzz;obtain ⟨hz0,hz1,hz2⟩:=hzz;obtain ⟨z,hz,hzs⟩:=qa1.1 hz0;have q:∀(w:World) (a:Option Addr) (n c n' c':Nat),(binOp .eql 28 (.slice a n c) (.slice none n' c')).run Tryz.prog w=.ok (.bool a.isNone) w:=fun w a n c n' c'=>Lib.run_eql_slice_nil w _ _ a n c n' c' clU277;have u:∀w,Sem.run Tryz.prog (underlying 28) w=.ok (TypeDesc.slice 31) w:=run_underlying clU277
 go_enter Tryz.func277,Tryz.ntmps277
 go_wp2_with (at_builtin;refine wpList_append_own _ rfl _ _ 28 rfl w.heap.size 31 i0 z 6 88 clU277 hi hz hz1 hz2 hzs (by decide) _ _ _ rfl (World.ownsRow_made w #[] 0 (Nat.le_refl _) (Nat.zero_le _) rfl) a 0 c [] rfl rfl (by intro j u hj;simp at hj) (by intro u hu;cases hu) (by unfold maxLen;omega) (by omega) (by simp) ?_)
 intro v' w1 hown hgrow hnil
 go_wp2
 go_ret
 refine ⟨v',rfl,by simpa using hown,?_⟩;exact ((Below.refl _ w).alloc (Nat.le_refl _) _).grown hgrow (by simp) (by intro k hk;simp [Value.ownBlock] at hk;omega)
theorem clM277 (e:List X)(r:qbI)(t:Bool)(N:Nat)(h:(e::r).length<=1000000):callF tab ext0 (N+1) (.fn 277) [.sl t 6 (e::r)] []=some (.bs 0 0 (e::r).length,[.row 6 (e::r)]):=by have:=callF_of (T:=tab) (ext:=ext0) (N:=N) (f:=277) (args:=[.sl t 6 (e::r)]) (inb:=[]) (r:=some (.bs 0 0 (0+(e::r).length),[.row 6 ([]++(e::r))])) [(7,.fresh)] [] (pf1 (a:=(e::r).isEmpty=false/\roomOk (0+(e::r).length) 88=true) ⟨rfl,by rw [Nat.zero_add];exact roomC h (by decide)⟩) (by kernel_rfl);rw [Nat.zero_add,qbp] at this;exact this
theorem cl_sem277 (t:Bool)(es:qbI)(h:es.length<=1000000):FSem Tryz.prog (RCode Tryz.prog gl) 277 [.sl t 6 es] [] (.bs 0 0 es.length) [.row 6 es]:=by
 cases es with
 |cons e r=>exact ((machine0 1).fn _ _ _ _ _ (clM277 e r t 0 h)).2
 |nil=>
  intro K C w cargs hI ha;have hs:cargs.size=1:=ha.1;have r0:=ha.2 0 _ cargs[0] rfl (qa7 (by omega));have hca:cargs=#[cargs[0]]:=by
   refine Array.ext (by simp [hs]) fun i h1 h2=>?_
   match i,h1,h2 with
   |0,_,_=>rfl
   |i+1,h1,_=>omega
  rw [hca];generalize cargs[0]=v at r0;have key:Calls Tryz.prog 277 #[v] w fun e w'=>∃v',e=.returned v'/\w'.ownsRow w.heap.size 31 6 v' 0 []/\Below w.heap.size w w':=by
   generalize hx:X.sl t 6 []=x at r0;cases r0<;>try cases hx
   case slNil ob=>
    cases ob with
    |none=>
     refine (clN277 0 0 w).mono ?_
     rintro e w' ⟨rfl,rfl⟩
     exact ⟨_,rfl,World.ownsRow_nil _ _ _ _,Below.refl _ _⟩
    |some a=>exact clZ277 a 0 w
   case sl=>exact clZ277 _ _ w
  exact fsem_none (inb:=[]) (args:=[]) hI key
end
section
theorem clI265:(Tryz.prog.info? 106).map (fun i=>(i.zero.map (·.cells.size),i.size,i.bytes))=some (some 5,5,80):=by kernel_rfl
theorem clU265:Tryz.prog.underlying 53=some (.slice 106):=by kernel_rfl
set_option maxHeartbeats 1000000 in
theorem clN265 (n c:Nat)(w:World):Calls Tryz.prog 265 #[.slice none n c] w fun e w'=>e=.returned (.slice none 0 0)/\w'=w:=by
 have mixed:Tryz.prog.follows .mixedOrders=true:=by kernel_rfl
 have q:∀(w:World) (a:Option Addr) (n c n' c':Nat),(binOp .eql 53 (.slice a n c) (.slice none n' c')).run Tryz.prog w=.ok (.bool a.isNone) w:=fun w a n c n' c'=>Lib.run_eql_slice_nil w _ _ a n c n' c' clU265
 go_enter Tryz.func265,Tryz.ntmps265
 go_wp2
 go_ret
 exact ⟨rfl,rfl⟩
set_option maxHeartbeats 2000000 in
set_option maxRecDepth 100000 in
theorem clZ265 (a:Addr)(c:Nat)(w:World):Calls Tryz.prog 265 #[.slice (some a) 0 c] w fun e w'=>∃v',e=.returned v'/\w'.ownsRow w.heap.size 106 5 v' 0 []/\Below w.heap.size w w':=by
 have mixed:Tryz.prog.follows .mixedOrders=true:=by kernel_rfl
 obtain ⟨i0,hi,hzz⟩:=qa1.1 clI265;simp only [qaH] at hzz;obtain ⟨hz0,hz1,hz2⟩:=hzz;obtain ⟨z,hz,hzs⟩:=qa1.1 hz0;have q:∀(w:World) (a:Option Addr) (n c n' c':Nat),(binOp .eql 53 (.slice a n c) (.slice none n' c')).run Tryz.prog w=.ok (.bool a.isNone) w:=fun w a n c n' c'=>Lib.run_eql_slice_nil w _ _ a n c n' c' clU265;have u:∀w,Sem.run Tryz.prog (underlying 53) w=.ok (TypeDesc.slice 106) w:=run_underlying clU265
 go_enter Tryz.func265,Tryz.ntmps265
 go_wp2_with (at_builtin;refine wpList_append_own _ rfl _ _ 53 rfl w.heap.size 106 i0 z 5 80 clU265 hi hz hz1 hz2 hzs (by decide) _ _ _ rfl (World.ownsRow_made w #[] 0 (Nat.le_refl _) (Nat.zero_le _) rfl) a 0 c [] rfl rfl (by intro j u hj;simp at hj) (by intro u hu;cases hu) (by unfold maxLen;omega) (by omega) (by simp) ?_)
 intro v' w1 hown hgrow hnil
 go_wp2
 go_ret
 refine ⟨v',rfl,by simpa using hown,?_⟩;exact ((Below.refl _ w).alloc (Nat.le_refl _) _).grown hgrow (by simp) (by intro k hk;simp [Value.ownBlock] at hk;omega)
theorem clM265 (e:List X)(r:qbI)(t:Bool)(N:Nat)(h:(e::r).length<=1000000):callF tab ext0 (N+1) (.fn 265) [.sl t 5 (e::r)] []=some (.bs 0 0 (e::r).length,[.row 5 (e::r)]):=by have:=callF_of (T:=tab) (ext:=ext0) (N:=N) (f:=265) (args:=[.sl t 5 (e::r)]) (inb:=[]) (r:=some (.bs 0 0 (0+(e::r).length),[.row 5 ([]++(e::r))])) [(7,.fresh)] [] (pf1 (a:=(e::r).isEmpty=false/\roomOk (0+(e::r).length) 80=true) ⟨rfl,by rw [Nat.zero_add];exact roomC h (by decide)⟩) (by kernel_rfl);rw [Nat.zero_add,qbp] at this;exact this
theorem cl_sem265 (t:Bool)(es:qbI)(h:es.length<=1000000):FSem Tryz.prog (RCode Tryz.prog gl) 265 [.sl t 5 es] [] (.bs 0 0 es.length) [.row 5 es]:=by
 cases es with
 |cons e r=>exact ((machine0 1).fn _ _ _ _ _ (clM265 e r t 0 h)).2
 |nil=>
  intro K C w cargs hI ha;have hs:cargs.size=1:=ha.1;have r0:=ha.2 0 _ cargs[0] rfl (qa7 (by omega));have hca:cargs=#[cargs[0]]:=by
   refine Array.ext (by simp [hs]) fun i h1 h2=>?_
   match i,h1,h2 with
   |0,_,_=>rfl
   |i+1,h1,_=>omega
  rw [hca];generalize cargs[0]=v at r0;have key:Calls Tryz.prog 265 #[v] w fun e w'=>∃v',e=.returned v'/\w'.ownsRow w.heap.size 106 5 v' 0 []/\Below w.heap.size w w':=by
   generalize hx:X.sl t 5 []=x at r0;cases r0<;>try cases hx
   case slNil ob=>
    cases ob with
    |none=>
     refine (clN265 0 0 w).mono ?_
     rintro e w' ⟨rfl,rfl⟩
     exact ⟨_,rfl,World.ownsRow_nil _ _ _ _,Below.refl _ _⟩
    |some a=>exact clZ265 a 0 w
   case sl=>exact clZ265 _ _ w
  exact fsem_none (inb:=[]) (args:=[]) hI key
end
end Go.Proofs.YtonnphbfclaigaaGreatDoor
namespace Go.Proofs
open Go.Shelf
namespace YtonnphbfclaigaaGreatDoor
open Go.RowKit Go.Em
def BytesAt (w:World)(b:Nat)(l:List UInt8)(n:Nat):Prop:=∀j,j<n->w.cell? ⟨b,j,none⟩=some (.int .u8 ((l.getD j 0).toNat:Int))/\w.frozen? ⟨b,j,none⟩=false
theorem bytes_set {w:World}{b n i:Nat}{l:List UInt8}(h:BytesAt w b l n)(hi:i<n)(hn:n=l.length)(v:UInt8):BytesAt (w.setCell ⟨b,i,none⟩ (.int .u8 (v.toNat:Int))) b (l.set i v) n:=fun j hj=>by obtain ⟨h1,h2⟩:=h j hj<;>grind[World.frozen?_setCell,World.cell?_setCell_same,World.cell?_setCell_other]
def shStep (c d:Int)(l:List UInt8)(i:Nat):List UInt8:=(l.take i).map (shB c d)++l.drop i
theorem shStep_len (c d:Int)(l:List UInt8)(i:Nat):(shStep c d l i).length=l.length:=by grind[shStep]
theorem shStep_at {c d:Int}{l:List UInt8}{i:Nat}(hi:i<l.length):(shStep c d l i).getD i 0=l.getD i 0:=by grind[shStep]
theorem shStep_next {c d:Int}{l:List UInt8}{i:Nat}(hi:i<l.length):shStep c d l (i+1)=(shStep c d l i).set i (shB c d (l.getD i 0)):=by
 unfold shStep;rw [List.take_add_one,qa3 hi,Option.toList_some,List.map_append,qbt,List.map_nil];rw [List.drop_eq_getElem_cons hi];rw [List.set_append_right _ _ (by grind)];have:i-((l.take i).map (shB c d)).length=0:=by simp;omega
 grind
theorem shStep_all (c d:Int)(l:List UInt8):shStep c d l l.length=l.map (shB c d):=by grind[shStep]
set_option maxHeartbeats 4000000 in
set_option maxRecDepth 100000 in
theorem shifted_calls (s:qbJ)(c d:Int)(hc0:0<=c)(hc1:c<=97)(hd0:-32<=d)(hd1:d<=32)(hcd:0<=c+d)(hs:s.size<=1000000)(w:World):
  Calls Tryz.prog 494 #[.string s,.int .u8 c,.int .i64 d] w fun e w'=>e=.returned (.string ⟨(s.data.toList.map (shB c d)).toArray⟩)/\Below w.heap.size w w':=by
 have hcv:=run_bytes_of_string (P:=Tryz.prog) w 9 166 5 s Tryz.underlying9 Tryz.underlying166 Tryz.underlying5;have hlen:s.data.toList.length=s.size:=Array.length_toList ..;obtain ⟨l,hl⟩:∃l,l=s.data.toList:=⟨_,rfl⟩;rw [<-hl] at hlen ⊢;obtain ⟨W0,hW0⟩:∃W0,W0=w.drew.alloc (.cells (bytesRow s (grownCap w s.size 0 5)) 5 ((bytesRow s (grownCap w s.size 0 5)).size,(bytesRow s (grownCap w s.size 0 5)).size+1)):=⟨_,rfl⟩;obtain ⟨cap,hcap⟩:∃cap,cap=grownCap w s.size 0 5:=⟨_,rfl⟩;rw [<-hW0,<-hcap] at hcv;have hB0:Below w.heap.size w W0:=by rw [hW0];exact (Below.refl _ w).drew.alloc (Nat.le_refl _) _
 have hA0:BytesAt W0 w.heap.size l s.size:=fun j hj=>by
  have hj':j<s.data.size:=hj;rw [hW0];have e1:=World.cell?_alloc_mark w.drew (bytesRow s (grownCap w s.size 0 5)) 5 ((bytesRow s (grownCap w s.size 0 5)).size,(bytesRow s (grownCap w s.size 0 5)).size+1) j;have e2:=World.frozen?_alloc_mark w.drew (bytesRow s (grownCap w s.size 0 5)) 5 (bytesRow s (grownCap w s.size 0 5)).size ((bytesRow s (grownCap w s.size 0 5)).size+1) j;have hh:w.drew.heap.size=w.heap.size:=rfl
  grind[bytesRow]
 have hback:∀wx,BytesAt wx w.heap.size (shStep c d l s.size) s.size->(convert 166 9 (.slice (some ⟨w.heap.size,0,none⟩) s.size cap)).run Tryz.prog wx=.ok (.string ⟨(l.map (shB c d)).toArray⟩) wx:=fun wx h=>by
  have e1:shStep c d l s.size=l.map (shB c d):=by rw [<-hlen];exact shStep_all c d l
  rw [e1] at h;have hlm:(l.map (shB c d)).length=s.size:=by rw [qa9,hlen]
  have:=run_convert_bytes_back (P:=Tryz.prog) wx 166 9 5 ⟨w.heap.size,0,none⟩ cap (l.map (shB c d)) Tryz.underlying166 Tryz.underlying5 Tryz.underlying9 (fun j hj=>by rw [Addr.add_lit,Nat.zero_add,(h j (by omega)).1,qby,qa3 hj];rfl)
  grind
 have HB:Hid (∀wx,BytesAt wx w.heap.size (shStep c d l s.size) s.size->(convert 166 9 (.slice (some ⟨w.heap.size,0,none⟩) s.size cap)).run Tryz.prog wx=.ok (.string ⟨(l.map (shB c d)).toArray⟩) wx):=hback;have HL:Aside (l.length=s.size):=hlen;have HA0:Hid (BytesAt W0 w.heap.size l s.size):=hA0;clear hback hlen hA0 hW0 hcap hl
 go_enter Tryz.func494,Tryz.ntmps494
 go_wp2
 go_loopg [8,9,14] s.size (fun g _ _ s14 wx=>∃i:Nat,i+g=s.size/\s14=.int .i64 i/\Hid (BytesAt wx w.heap.size (shStep c d l i) s.size)/\Below w.heap.size w wx)
 case atStart=>exact ⟨0,by omega,rfl,HA0,hB0⟩
 case round=>
  obtain ⟨i,hig,rfl,hA,hB⟩:=hrel;cases gk with
  |zero=>
   obtain rfl:i=s.size:=by omega
   have hiz:¬((s.size:Int)<(s.size:Int)):=by omega
   have hb:=HB.out _ hA.out
   go_wp2
   go_ret
   exact ⟨rfl,hB⟩
  |succ g=>
   have hi:i<s.size:=by omega
   have hiz:(i:Int)<(s.size:Int):=by omega
   obtain ⟨h1,h2⟩:=hA.out i hi;rw [shStep_at (by rw [HL.out];omega)] at h1;obtain ⟨b,hb⟩:∃b,l.getD i 0=b:=⟨_,rfl⟩;rw [hb] at h1;have HN2:Aside (shB c d b=b->BytesAt wr w.heap.size (shStep c d l (i+1)) s.size):=fun e=>by
    have hi':i<(shStep c d l i).length:=by rw [shStep_len,HL.out];exact hi
    have e2:(shStep c d l i).set i b=shStep c d l i:=by have e3:=shStep_at (c:=c) (d:=d) (l:=l) (i:=i) (by rw [HL.out];omega);rw [qby,qa3 hi',hb] at e3;have e4:(shStep c d l i)[i]=b:=e3;rw [<-e4];exact List.set_getElem_self hi'
    rw [shStep_next (by rw [HL.out];omega),hb,e,e2];exact hA.out
   have HN:Aside (BytesAt (wr.setCell ⟨w.heap.size,i,none⟩ (.int .u8 ((shB c d b).toNat:Int))) w.heap.size (shStep c d l (i+1)) s.size):=by show BytesAt _ _ _ _;rw [shStep_next (by rw [HL.out];omega),hb];exact bytes_set hA.out hi (by rw [shStep_len];exact HL.out.symm) _
   have hb8:(b.toNat:Int)<256:=by have:=b.toNat_lt;omega
   have hb0:(0:Int)<=(b.toNat:Int):=by omega
   have HS:Aside (shB c d b=if c<=(b.toNat:Int)/\(b.toNat:Int)<c+26 then UInt8.ofNat ((b.toNat:Int)+d).toNat else b):=rfl;clear hb;obtain ⟨z,hz⟩:∃z:Int,z=(b.toNat:Int):=⟨_,rfl⟩;rw [<-hz] at h1 hb8 hb0
   go_wp2
   ·have e:shB c d b=UInt8.ofNat ((b.toNat:Int)+d).toNat:=by rw [HS.out,if_pos (by omega)]
    have e2:((shB c d b).toNat:Int)=(b.toNat:Int)+d:=by rw [e,UInt8.toNat_ofNat'];omega
    have hN:BytesAt (wr.setCell ⟨w.heap.size,i,none⟩ (.int .u8 ((b.toNat:Int)+d))) w.heap.size (shStep c d l (i+1)) s.size:=by rw [<-e2];exact HN.out
    go_roundg g
    case measure=>omega
    case rel=>exact ⟨i+1,by omega,rfl,hN,hB.setCell (Nat.le_refl _) _⟩
   ·have hN:=HN2.out (by rw [HS.out,if_neg (by omega)])
    go_roundg g
    case measure=>omega
    case rel=>exact ⟨i+1,by omega,rfl,hN,hB⟩
   have hN:=HN2.out (by rw [HS.out,if_neg (by omega)])
   go_roundg g
   case measure=>omega
   case rel=>exact ⟨i+1,by omega,rfl,hN,hB⟩
theorem three_args {K:Kn}{C:List CB}{u v x:Value}{cargs:Array Value}(ha:ArgsRep K C [.v u,.v v,.v x] cargs):cargs=#[u,v,x]:=by
 have hs:cargs.size=3:=ha.1;have r0:=rep_v (ha.2 0 _ cargs[0] rfl (qa7 (by omega)));have r1:=rep_v (ha.2 1 _ cargs[1] rfl (qa7 (by omega)));have r2:=rep_v (ha.2 2 _ cargs[2] rfl (qa7 (by omega)))
 grind
theorem shift_sem {R:CodeRel}(s:qbJ)(c d:Int)(hc0:0<=c)(hc1:c<=97)(hd0:-32<=d)(hd1:d<=32)(hcd:0<=c+d)(hs:s.size<=1000000)(inb:List Bx):FSem Tryz.prog R 494 [.v (.string s),.v (.int .u8 c),.v (.int .i64 d)] inb (.v (.string ⟨(s.data.toList.map (shB c d)).toArray⟩)) inb:=by
 refine fsem_rep fun cargs w K C hI ha=>?_;rw [three_args ha];refine (shifted_calls s c d hc0 hc1 hd0 hd1 hcd hs w).mono ?_
 rintro e w' ⟨rfl,hB⟩
 exact ⟨_,rfl,fun _ _=>.v rfl,hB⟩
end YtonnphbfclaigaaGreatDoor
end Go.Proofs
