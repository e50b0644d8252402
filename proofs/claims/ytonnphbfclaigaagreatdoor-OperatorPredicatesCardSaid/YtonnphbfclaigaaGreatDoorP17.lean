/-.-/
import Derived.Test.YtonnphbfclaigaaGreatDoorP16
set_option linter.all false
namespace Go.Proofs.YtonnphbfclaigaaGreatDoor.Iv
open Go.Em Go.RowKit Go.Lib
variable {rows:qbI}{cs vs:List Value}{v:Value}
section
variable {P:Program} {R:CodeRel} {K:Kn}
theorem post_move {w w':World}{c0 c':CB}{sz:Nat}{new:qbI}{res:X}(hI:Inv P R K [c0] [.row sz rows] w)(hf:FrameOk c0.owns w w')(hown:∀b o,c'.owns b o->c0.owns b o\/w.heap.size<=b)
  (hB:BoxOk P R K ([c0]++[c']) w' (.row sz new) c') (hres:Rep K ([c0]++[c']) res v):Post P R K [c0] [.row sz rows] w res [.dead,.row sz new] (.returned v) w':=by
 have hdead:∀b o,¬Owns [c0] [Bx.dead] b o:=by
  rintro b o ⟨i,c,B,h1,h2,h3,h4⟩
  cases i with
  |zero=>simp at h2;subst h2;simp [Bx.live] at h3
  |succ i=>simp at h2
 have hin:∀b o,c0.owns b o->Owns [c0] [Bx.row sz rows] b o:=fun b o h=>⟨0,c0,.row sz rows,rfl,rfl,rfl,h⟩;have hk:=hI.kill 0;have hk':Inv P R K [c0] [.dead] w':=Inv.frame hk hf (fun b o v e ho=>by have:=hI.apart b o (hin b o ho);rw [this] at e;cases e) (fun b o ho=>absurd ho (hdead b o));refine ⟨v,K,[c'],rfl,⟨hk'.push hB (fun b o ho=>?_) (fun b o _=>hdead b o),hres,KLe.refl _,fun b o u e=>.inl e,fun b o ho=>?_,hf.mono fun b o _ h=>hin b o h,fun i B e hl=>?_⟩⟩
 ·rcases hown b o ho with h|h;·exact hI.apart b o (hin b o h)
  cases hk:K b o with
  |none=>rfl
  |some u=>have:=hI.known_lt hk;omega
 ·obtain ⟨i,c,B,h1,h2,h3,h4⟩:=ho
  match i,h1,h2 with
  |0,h1,h2=>simp at h2;subst h2;simp [Bx.live] at h3
  |1,h1,h2=>
   simp at h1;subst h1;rcases hown b o h4 with h|h;·exact .inl (hin b o h)
   exact .inr h
  |i+2,h1,h2=>simp at h2
 cases i with
 |zero=>simp at e;subst e;cases hl
 |succ i=>simp at e
theorem splice_get (l vs:List Value)(o q:Nat)(h:o+vs.length<=l.length):(l.take o++vs++l.drop (o+vs.length)).toArray[q]?=if q<o then l[q]? else if q<o+vs.length then vs[q-o]? else l[q]?:=by
 have hT:(l.take o).length=o:=by rw [qaN];omega
 rw [List.getElem?_toArray];by_cases h5:q<o;·rw [if_pos h5,qbj,qa6 (by omega),qbb,if_pos h5]
 rw [if_neg h5,qbj,qbf (by omega),hT];by_cases h6:q<o+vs.length;·rw [if_pos h6,qa6 (by omega)]
 rw [if_neg h6,qbf (by omega),qa8]
 congr 1;omega
theorem setCells_row (W:World)(b o:Nat)(arr:Array Value)(el:TypeId)(vs:List Value)(hb:W.heap[b]?=some (.cells arr el (0,0)))(hl:o+vs.length<=arr.size)(h1:∀v∈vs,v.oneCell'=true):
  W.setCells b o vs=W.setRow b (arr.toList.take o++vs++arr.toList.drop (o+vs.length)).toArray:=by
 have hc:∀j,j<vs.length->(W.cell? ⟨b,o+j,none⟩).isSome=true:=fun j hj=>by simp only [World.cell?,hb];rw [qa7 (by omega)];rfl
 have hf:∀j,j<vs.length->W.frozen? ⟨b,o+j,none⟩=false:=fun j hj=>by simp [World.frozen?,hb]
 have e1:=run_storeCells_cells (P:=Tryz.prog) b o vs 0 W (by simpa using hc) (by simpa using hf) h1;have e2:=run_storeCells_at Tryz.prog b o el vs 0 arr W hb (by omega) h1;rw [e1] at e2;simp only [Nat.add_zero] at e2;injection e2
theorem ins_flat {K:Kn}{x:List X}(hf:Flat K 6 rows cs)(hv:Flat K 6 [x] vs)(i:Nat):Flat K 6 (rows.take i++[x]++rows.drop i) (cs.take (i*6)++vs++cs.drop (i*6)):=
 ((hf.take i).append hv).append (hf.drop i)
theorem ins_get {n i k:Nat}(hcl:cs.length=n*6)(hvl:vs.length=6)(hi:i<=n)(h:(cs.take (i*6)++vs++cs.drop (i*6))[k]?=some v):
  (k<i*6/\cs[k]?=some v)\/(i*6<=k/\k<(i+1)*6/\vs[k-i*6]?=some v)\/((i+1)*6<=k/\k<(n+1)*6/\cs[k-6]?=some v):=by
 have hT:(cs.take (i*6)).length=i*6:=by rw [qaN];omega
 by_cases h1:k<i*6;·rw [qbj,qa6 (by omega),qbb,if_pos h1] at h;exact .inl ⟨h1,h⟩
 rw [qbj,qbf (by omega),hT] at h;by_cases h2:k<(i+1)*6;·rw [qa6 (by omega)] at h;exact .inr (.inl ⟨by omega,h2,h⟩)
 rw [qbf (by omega),qa8] at h;have e:i*6+(k-i*6-vs.length)=k-6:=by omega
 rw [e] at h;have:=(qaY.1 h).1;exact .inr (.inr ⟨by omega,by omega,h⟩)
set_option maxRecDepth 100000 in
theorem ins_sem {R:CodeRel}(n i:Nat)(t:Bool)(x:List X)(rows:qbI)(hi:i<=n)(hn:n=rows.length)(hn2:n<=2000000):
  FSem Tryz.prog R 207 [.bs 0 0 n,.v (.int .i64 (Int.ofNat i)),.sl t 6 [x]] [.row 6 rows] (.bs 1 0 (n+1)) [.dead,.row 6 (rows.take i++[x]++rows.drop i)]:=by
 intro K C w cargs hI ha;have hs:cargs.size=3:=ha.1;have r0:=ha.2 0 _ cargs[0] rfl (qa7 (by omega));have r1:=ha.2 1 _ cargs[1] rfl (qa7 (by omega));have r2:=ha.2 2 _ cargs[2] rfl (qa7 (by omega));have hca:cargs=#[cargs[0],cargs[1],cargs[2]]:=by
  refine Array.ext (by simp [hs]) fun j h1 h2=>?_
  match j,h1,h2 with
  |0,_,_=>rfl
  |1,_,_=>rfl
  |2,_,_=>rfl
  |j+3,h1,_=>omega
 rw [hca];generalize cargs[0]=v0 at r0;generalize cargs[1]=v1 at r1;generalize cargs[2]=v2 at r2;obtain rfl:=rep_v r1;obtain ⟨c0,hC⟩:∃c0,C=[c0]:=by
  have:=hI.size
  match C,this with
  |[c0],_=>exact ⟨c0,rfl⟩
 subst hC;obtain ⟨vb,vo,c2,rfl⟩:∃vb vo c2,v2=.slice (some ⟨vb,vo,none⟩) 1 c2:=by
  generalize hx:X.sl t 6 [x]=y at r2;cases r2<;>try cases hx
  exact ⟨_,_,_,rfl⟩
 obtain ⟨vs,hv,hvK⟩:=r2.flat;have hvl:vs.length=6:=by simpa using hv.len
 have hvs:∀j v,vs[j]?=some v->w.cell? ⟨vb,vo+j,none⟩=some v:=fun j v h=>hI.known _ _ _ (hvK j v h);have h1v:=hv.oneCell;obtain ⟨tA,kA,hsa,hkA⟩:∃tA kA,w.shape? vb=some (tA,kA)/\kA≠0:=by
  have h0:=hvs 0 _ (qa3 (by omega));unfold World.cell? at h0;split at h0;next arr el fr hh=>refine ⟨el,arr.size,by simp [World.shape?,hh],fun e=>?_⟩;have:=(qbA.1 h0).1;omega
  cases h0
 have hvfc:∀w':World,w'.heap=w.heap->(Builtin.firstCells 6 1 (.slice (some ⟨vb,vo,none⟩) 1 c2)).run Tryz.prog w'=.ok vs.toArray w':=fun w' hw=>by refine run_firstCells_some w' 6 1 ⟨vb,vo,none⟩ 1 c2 vs (by omega) (fun j u hu=>?_);rw [Addr.add_lit];have:=hvs j u hu;simp only [World.cell?,hw] at this ⊢;exact this
 have hz78:(zeroP Tryz.prog 31).isSome=true:=by kernel_rfl
 obtain ⟨z78,hz78⟩:=Option.isSome_iff_exists.1 hz78;have hs78:sizeP Tryz.prog 31=some 6:=by kernel_rfl
 have hb78:bytesP Tryz.prog 31=some 88:=by kernel_rfl
 have endGrow:∀(ob:Option Addr) (c:Nat) (olds:List Value),i=n->n<=c->c<n+1->(ob=none->n=0/\c=0)->Flat K 6 rows olds->(∀w':World,w'.heap=w.heap->(Builtin.firstCells 6 n (.slice ob n c)).run Tryz.prog w'=.ok olds.toArray w')->
   Calls Tryz.prog 207 #[.slice ob n c,.int .i64 (Int.ofNat i),.slice (some ⟨vb,vo,none⟩) 1 c2] w (Post Tryz.prog R K [c0] [.row 6 rows] w (.bs 1 0 (n+1)) [.dead,.row 6 (rows.take i++[x]++rows.drop i)]):=by
  intro ob c olds hin hnc hcn hnil hfo hfco;subst hin;have hex:∃rest:List Value,(∀ty,(Builtin.append_ #[28,28] ty #[.slice ob i c,.slice (some ⟨vb,vo,none⟩) 1 c2]).run Tryz.prog w=.ok (.slice (some ⟨w.heap.size,0,none⟩) (i+1) (grownCap w (i+1) c 31)) (w.drew.alloc (.cells (olds++vs++rest).toArray 31)))/\rest.length=(grownCap w (i+1) c 31-(i+1))*6:=by obtain ⟨rest,h1,h2⟩:=run_app_grow (P:=Tryz.prog) (w:=w) (ty:=0) (ob:=ob) (oc:=some ⟨vb,vo,none⟩) (n:=i) (cap:=c) (m:=1) (c:=c2) und35 und35 hs78 hb78 hz78 olds vs hfco hvfc hcn (by omega) (by omega) (by omega);exact ⟨rest,fun ty=>h1,h2⟩
  obtain ⟨rest,hrun,hrl⟩:=hex;have hm:=grownCap_ge w (i+1) c 31;generalize grownCap w (i+1) c 31=m at hrun hrl hm;refine (ins_end ob i c vb vo c2 w _ _ hnc hn2 hnil hrun).mono ?_
  rintro e w' ⟨rfl,rfl⟩
  have hfl:=hfo.append hv;have e1:rows.take i++[x]++rows.drop i=rows++[x]:=by rw [hn,List.take_length,List.drop_length,List.append_nil]
  rw [e1];have hol:olds.length=i*6:=by rw [hfo.len,<-hn]
  have hsz:(olds++vs++rest).toArray.size=m*6:=by simp only [List.size_toArray,qaZ,hol,hvl,hrl];omega
  refine post_move (c':=.at w.heap.size 0 (m*6) 6) hI (FrameOk.trans (FrameOk.drew _ w) (FrameOk.alloc (S:=c0.owns) _ _) (fun _ _ _ h=>h)) (fun b o h=>.inr (by rw [h.1];exact Nat.le_refl _)) (hfl.box (alloc_get w.drew _) (fun k v hk=>?_) (by simp only [qaZ,List.length_singleton];omega) (by omega)) ?_;·rw [Nat.zero_add,List.getElem?_toArray,qa6 (qaY.1 hk).1];exact hk
  have:=@Rep.bs K ([c0]++[.at w.heap.size 0 (m*6) 6]) 1 0 (i+1) w.heap.size 0 (m*6) 6 m rfl (by omega) (by omega);simpa using this
 generalize hx0:X.bs 0 0 n=y0 at r0;cases r0<;>try cases hx0
 case bsNil ob hc=>
  have e0:c0=.ghost:=by simpa using hc
  subst e0;have hi0:i=0:=by omega
  have hr0:rows=[]:=qbx hn.symm;refine endGrow ob 0 [] hi0 (Nat.le_refl _) (by omega) (fun _=>⟨rfl,rfl⟩) (by rw [hr0];exact Flat.nil) (fun w' _=>?_);cases ob<;>simp [Builtin.firstCells,loadCells,loadCellsFrom]
 case bs b base hi' sz cap hc hcap hlen=>
  have e0:c0=.at b base hi' sz:=by simpa using hc
  subst e0;obtain ⟨arr,el,g1,g2,g3,hbl,hfe⟩:=(hI.box 0 _ _ rfl rfl).flat;subst g1;simp only [Nat.zero_mul,Nat.zero_add,Nat.add_zero] at hcap ⊢;generalize hcd:(arr.toList.drop base).take (rows.length*6)=cs at hfe;have hcl:cs.length=n*6:=by rw [hfe.len,<-hn]
  have hcar:∀j v,cs[j]?=some v->arr[base+j]?=some v:=fun j v h=>by
   rw [<-hcd,qbb] at h;split at h;·rw [qa8] at h;simpa using h
   cases h
  have hcs:∀j v,cs[j]?=some v->w.cell? ⟨b,base+j,none⟩=some v:=fun j v h=>by simp only [World.cell?,hbl];exact hcar j v h
  have h1c:=hfe.oneCell;have hnk:∀o,base<=o->o<hi'->K b o=none:=fun o h1 h2=>hI.apart b o ⟨0,_,_,rfl,rfl,rfl,⟨rfl,h1,h2⟩⟩;have hfz:∀o,w.frozen? ⟨b,o,none⟩=false:=fun o=>by simp [World.frozen?,hbl]
  have hflat:=ins_flat hfe hv i;by_cases hin:i=n
  ·by_cases hfit:n+1<=cap
   ·subst hin;have hst:=run_storeCells_at Tryz.prog b (base+i*6) el vs 0 arr w hbl (by omega) h1v;simp only [Nat.add_zero] at hst;have hrun:∀ty,(Builtin.append_ #[28,28] ty #[.slice (some ⟨b,base,none⟩) i cap,.slice (some ⟨vb,vo,none⟩) 1 c2]).run Tryz.prog w=.ok (.slice (some ⟨b,base,none⟩) (i+1) cap) (w.setRow b (arr.toList.take (base+i*6)++vs++arr.toList.drop (base+i*6+vs.length)).toArray):=fun ty=>run_app_fit (P:=Tryz.prog) (ty:=ty) (ob:=some ⟨b,base,none⟩) und35 und35 hs78 vs _ (hvfc w rfl) hfit (fun ad e=>by cases e;rw [Addr.add_lit];exact hst) (fun e=>by cases e);refine (ins_end _ i cap vb vo c2 w _ _ (by omega) hn2 (fun e=>by cases e) hrun).mono ?_
    rintro e w' ⟨rfl,rfl⟩
    have hget:∀q,(arr.toList.take (base+i*6)++vs++arr.toList.drop (base+i*6+vs.length)).toArray[q]?=if q<base+i*6 then arr[q]? else if q<base+i*6+vs.length then vs[q-(base+i*6)]? else arr[q]?:=fun q=>by rw [splice_get _ _ _ _ (by have:arr.toList.length=arr.size:=Array.length_toList;omega)];simp
    have hsize:(arr.toList.take (base+i*6)++vs++arr.toList.drop (base+i*6+vs.length)).toArray.size=arr.size:=by simp;omega
    generalize (arr.toList.take (base+i*6)++vs++arr.toList.drop (base+i*6+vs.length)).toArray=arr' at hget hsize;refine post_move (c':=.at b base hi' 6) hI (FrameOk.setRow hbl hsize fun q hq=>?_) (fun b' o' h=>.inl h) (hflat.box (setRow_heap w b arr arr' el _ hbl) (fun k v hk=>?_) (by rw [hflat.len.symm.trans (by simp;omega:_=(i+1)*6)];omega) (by omega)) ?_
    ·rw [hget];have hout:¬(base<=q/\q<hi'):=fun hh=>hq ⟨rfl,hh.1,hh.2⟩;by_cases h5:q<base+i*6;·rw [if_pos h5]
     rw [if_neg h5,if_neg (by omega)]
    ·rw [hget];rcases ins_get hcl hvl (Nat.le_refl _) hk with ⟨h1,h2⟩|⟨h1,h2,h3⟩|⟨h1,h2,h3⟩;·rw [if_pos (by omega)];exact hcar k v h2
     ·rw [if_neg (by omega),if_pos (by omega),<-h3];congr 1;omega
     omega
    have:=@Rep.bs K ([.at b base hi' 6]++[.at b base hi' 6]) 1 0 (i+1) b base hi' 6 cap rfl (by omega) hfit;simpa using this
   refine endGrow (some ⟨b,base,none⟩) cap cs hin (by omega) (by omega) (fun e=>by cases e) hfe (fun w' hw=>?_);refine run_firstCells_some w' 6 n ⟨b,base,none⟩ n cap cs (by omega) (fun j u hu=>?_);rw [Addr.add_lit];have:=hcs j u hu;simp only [World.cell?,hw] at this ⊢;exact this
  have hil:i<n:=by omega
  by_cases hfit:n+1<=cap
  ·have hlb:arr.toList.length=arr.size:=Array.length_toList;have hsh:w.shape? b=some (el,arr.size):=by simp [World.shape?,hbl]
   refine (ins_shift b base n cap i vb vo c2 cs vs w hil hfit hn2 (fun j k hj hk e hne=>?_) hcl hvl hcs (fun j hj=>?_) (fun j _=>hfz _) hvs h1c h1v tA el kA arr.size hsa hsh (by omega) hkA hfz).mono ?_;·have hk1:=hvK j _ (qa3 (by omega));rw [e,hne,hnk _ (by omega) (by omega)] at hk1;cases hk1
   ·simp only [World.cell?,hbl];rw [qa7 (by omega)];rfl
   rintro e w' ⟨rfl,rfl⟩
   have hdl:(cs.drop (i*6)).length=(n-i)*6:=by rw [qba,hcl];omega
   have hbl2:w.drew.heap[b]?=some (.cells arr el (0,0)):=hbl;rw [setCells_row w.drew b _ arr el _ hbl2 (by omega) (fun v hv'=>h1c v (List.mem_of_mem_drop hv'))];have hget1:=fun q=>splice_get arr.toList (cs.drop (i*6)) (base+(i+1)*6) q (by omega);have hsz1:(arr.toList.take (base+(i+1)*6)++cs.drop (i*6)++arr.toList.drop (base+(i+1)*6+(cs.drop (i*6)).length)).toArray.size=arr.size:=by simp only [List.size_toArray,qaZ,qaN,qba,hlb];omega
   generalize (arr.toList.take (base+(i+1)*6)++cs.drop (i*6)++arr.toList.drop (base+(i+1)*6+(cs.drop (i*6)).length)).toArray=arr1 at hget1 hsz1 ⊢;have hb1:=setRow_heap w.drew b arr arr1 el (0,0) hbl2;have hlb1:arr1.toList.length=arr1.size:=Array.length_toList;rw [setCells_row _ b _ arr1 el _ hb1 (by omega) h1v];have hget2:=fun q=>splice_get arr1.toList vs (base+i*6) q (by omega);have hsz2:(arr1.toList.take (base+i*6)++vs++arr1.toList.drop (base+i*6+vs.length)).toArray.size=arr1.size:=by simp only [List.size_toArray,qaZ,qaN,qba,hlb1];omega
   generalize (arr1.toList.take (base+i*6)++vs++arr1.toList.drop (base+i*6+vs.length)).toArray=arr2 at hget2 hsz2 ⊢;have hb2:=setRow_heap _ b arr1 arr2 el (0,0) hb1;simp only [Array.getElem?_toList] at hget1 hget2;refine post_move (c':=.at b base hi' 6) hI (FrameOk.trans (FrameOk.drew _ w) (FrameOk.trans (FrameOk.setRow hbl2 hsz1 fun q hq=>?_) (FrameOk.setRow (S:=(CB.at b base hi' 6).owns) hb1 hsz2 fun q hq=>?_) (fun _ _ _ h=>h)) (fun _ _ _ h=>h)) (fun b' o' h=>.inl h) (hflat.box hb2 (fun k v hk=>?_) ?_ (by omega)) ?_
   ·rw [hget1];have hout:¬(base<=q/\q<hi'):=fun hh=>hq ⟨rfl,hh.1,hh.2⟩;by_cases h5:q<base+(i+1)*6;·rw [if_pos h5]
    rw [if_neg h5,if_neg (by omega)]
   ·rw [hget2];have hout:¬(base<=q/\q<hi'):=fun hh=>hq ⟨rfl,hh.1,hh.2⟩;by_cases h5:q<base+i*6;·rw [if_pos h5]
    rw [if_neg h5,if_neg (by omega)]
   ·rw [hget2];rcases ins_get hcl hvl hi hk with ⟨h1,h2⟩|⟨h1,h2,h3⟩|⟨h1,h2,h3⟩;·rw [if_pos (by omega),hget1,if_pos (by omega)];exact hcar k v h2
    ·rw [if_neg (by omega),if_pos (by omega),<-h3];congr 1;omega
    rw [if_neg (by omega),if_neg (by omega),hget1,if_neg (by omega),if_pos (by omega),qa8,<-h3];congr 1;omega
   ·have:=hflat.len;simp only [qaZ,qaN,qba,List.length_singleton];omega
   have:=@Rep.bs K ([.at b base hi' 6]++[.at b base hi' 6]) 1 0 (n+1) b base hi' 6 cap rfl (by omega) hfit;simpa using this
  refine (ins_grow b base n cap i vb vo c2 cs vs w hil (by omega) (by omega) (by omega) hcl hvl hcs hvs h1c h1v).mono ?_
  rintro e w' ⟨G,tl,hG,rfl,htl,rfl⟩
  have hdl:(cs.drop (i*6)).length=(n-i)*6:=by rw [qba,hcl];omega
  have hTl:(cs.take (i*6)).length=i*6:=by rw [qaN];omega
  generalize hA:(cs.take (i*6)++tl).toArray=A;have hAs:A.size=G*6:=by rw [<-hA,List.size_toArray,qaZ,hTl,htl];omega
  have hlA:A.toList.length=A.size:=Array.length_toList;have hb0:(w.alloc (.cells A 31)).drew.heap[w.heap.size]?=some (.cells A 31 (0,0)):=alloc_get w _;rw [setCells_row _ _ _ A 31 _ hb0 (by omega) h1v];have hget1:=fun q=>splice_get A.toList vs (i*6) q (by omega);have hsz1:(A.toList.take (i*6)++vs++A.toList.drop (i*6+vs.length)).toArray.size=A.size:=by simp only [List.size_toArray,qaZ,qaN,qba,hlA];omega
  generalize (A.toList.take (i*6)++vs++A.toList.drop (i*6+vs.length)).toArray=arr1 at hget1 hsz1 ⊢;have hb1:=setRow_heap _ w.heap.size A arr1 31 (0,0) hb0;have hlb1:arr1.toList.length=arr1.size:=Array.length_toList;have hb1':((w.alloc (.cells A 31)).drew.setRow w.heap.size arr1).drew.heap[w.heap.size]?=some (.cells arr1 31 (0,0)):=hb1;rw [setCells_row _ _ _ arr1 31 _ hb1' (by omega) (fun v hv'=>h1c v (List.mem_of_mem_drop hv'))];have hget2:=fun q=>splice_get arr1.toList (cs.drop (i*6)) ((i+1)*6) q (by omega);have hsz2:(arr1.toList.take ((i+1)*6)++cs.drop (i*6)++arr1.toList.drop ((i+1)*6+(cs.drop (i*6)).length)).toArray.size=arr1.size:=by simp only [List.size_toArray,qaZ,qaN,qba,hlb1];omega
  generalize (arr1.toList.take ((i+1)*6)++cs.drop (i*6)++arr1.toList.drop ((i+1)*6+(cs.drop (i*6)).length)).toArray=arr2 at hget2 hsz2 ⊢;have hb2:=setRow_heap _ w.heap.size arr1 arr2 31 (0,0) hb1';simp only [Array.getElem?_toList] at hget1 hget2;have hfr:FrameOk (CB.at b base hi' 6).owns w (((w.alloc (.cells A 31)).drew.setRow w.heap.size arr1).drew.setRow w.heap.size arr2):=by
   have f1:FrameOk (fun p _=>p=w.heap.size) w (((w.alloc (.cells A 31)).drew.setRow w.heap.size arr1).drew.setRow w.heap.size arr2):=
    FrameOk.trans (FrameOk.alloc (S:=fun p _=>p=w.heap.size) w _) (FrameOk.trans (FrameOk.drew _ _) (FrameOk.trans (FrameOk.setRow hb0 hsz1 fun q hq=>absurd rfl hq) (FrameOk.trans (FrameOk.drew _ _) (FrameOk.setRow hb1' hsz2 fun q hq=>absurd rfl hq) (fun _ _ _ h=>h)) (fun _ _ _ h=>h)) (fun _ _ _ h=>h)) (fun _ _ _ h=>h)
   exact f1.mono fun p o hp h=>by omega
  refine post_move (c':=.at w.heap.size 0 (G*6) 6) hI hfr (fun b' o' h=>.inr (by rw [h.1];exact Nat.le_refl _)) (hflat.box hb2 (fun k v hk=>?_) ?_ (by omega)) ?_
  ·rw [Nat.zero_add,hget2];rcases ins_get hcl hvl hi hk with ⟨h1,h2⟩|⟨h1,h2,h3⟩|⟨h1,h2,h3⟩;·rw [if_pos (by omega),hget1,if_pos (by omega),<-hA,List.getElem?_toArray,qa6 (by omega),qbb,if_pos h1];exact h2
   ·rw [if_pos (by omega),hget1,if_neg (by omega),if_pos (by omega)];exact h3
   rw [if_neg (by omega),if_pos (by omega),qa8,<-h3];congr 1;omega
  ·simp only [qaZ,qaN,qba,List.length_singleton];omega
  have:=@Rep.bs K ([.at b base hi' 6]++[.at w.heap.size 0 (G*6) 6]) 1 0 (n+1) w.heap.size 0 (G*6) 6 G rfl (by omega) (by omega);simpa using this
end
end Go.Proofs.YtonnphbfclaigaaGreatDoor.Iv
namespace Go.Proofs.YtonnphbfclaigaaGreatDoor.Im
open Go.Em Go.RowKit Go.Lib
variable {rows:qbI}{cs vs:List Value}{v:Value}
theorem run_copy_k {P:Program}(w:World)(dT sT ty elem:TypeId)(k:Nat)(b o dLen dCap:Nat)(a:Addr)(sLen sCap:Nat)(cs:List Value)
  (hu:P.underlying dT=some (.slice elem)) (hs:(P.info? elem).map (·.size)=some k) (hn:cs.length=Nat.min sLen dLen*k)
  (hsrc:∀j v,cs[j]?=some v->w.cell? (a.add j)=some v) (hc:∀j,j<cs.length->(w.cell? ⟨b,o+j,none⟩).isSome=true) (hf:∀j,j<cs.length->w.frozen? ⟨b,o+j,none⟩=false) (h1:∀v∈cs,v.oneCell'=true):
  (Builtin.copy_ #[dT,sT] ty #[.slice (some ⟨b,o,none⟩) dLen dCap,.slice (some a) sLen sCap]).run P w=.ok (goInt (Nat.min sLen dLen)) (w.setCells b o cs):=by
 have hl:=run_loadCells_list (P:=P) w a cs hsrc;have hst:=run_storeCells_cells (P:=P) b o cs 0 w (by simpa using hc) (by simpa using hf) h1;cases hq:P.info? elem with
 |none=>simp [hq] at hs
 |some i=>
  have hi:i.size=k:=by simpa [hq] using hs
  simp [Builtin.copy_,run_underlying hu,Builtin.lenOf,Builtin.firstCells,sizeOf,typeInfo,hq,hi,<-hn,hl,hst]
theorem run_overlaps_own {P:Program}(w:World)(tS tR e:TypeId)(ht:P.underlying tS=some (.slice e))(size:Nat)(hz:∀w,(Go.sizeOf e).run P w=.ok size w)
  (a b:Addr) (la ca lb cb:Nat) (hne:a.block≠b.block) (tA tB:TypeId) (kA kB:Nat)
  (hsa:w.shape? a.block=some (tA,kA)) (hsb:w.shape? b.block=some (tB,kB)) (hkB:kB≠0) (hkA:kA≠0)
  (hfb:w.frozen? b=false) (hfe:w.frozen? {block:=b.block,off:=kB}=false):
  (Extern.SlicesOverlaps.overlaps #[tS,tS] #[tR] #[.slice (some a) la ca,.slice (some b) lb cb]).run P w=.ok (.bool false) w:=by
 have hnb:(a.block !=b.block)=true:=by simpa using hne
 have hnb':(a.block==b.block)=false:=by simpa using hne
 change Sem.run P (α:=Value) (do
  let some t:=(#[tS,tS]:Array TypeId)[0]?|stuck "slices.overlaps: no parameter types"
  let .slice elem <-underlying t|stuck "slices.overlaps: slice type expected"
  let size <-sizeOf elem
  match (some a:Option Addr),(some b:Option Addr) with
  |some a,some b=>
   if la=0\/lb=0\/size=0 then pure (Value.bool false)
   else if a.block !=b.block&&(<-frozen a)&&(<-frozen b) then unsupported .addressObserved
   else do
    if a.block !=b.block then do
     noView a;noView b
     if <-mayBeOne a b then return Value.bool ((<-choose (.extern "sameAddr.stringBytes" 2))==1)
    pure (Value.bool (a.block==b.block&&a.off<b.off+lb*size&&b.off<a.off+la*size))
  |_,_=>pure (Value.bool false)) w=_
 by_cases h0:la=0\/lb=0\/size=0;·simp [run_underlying ht,hz,h0]
 cases kB with
 |zero=>exact absurd rfl hkB
 |succ kB=>
  obtain ⟨kA,rfl⟩:∃k,kA=k+1:=⟨kA-1,by omega⟩;cases hfa:w.frozen? a with
  |true=>simp [run_underlying ht,hz,h0,hnb,hnb',frozen,noView,viewAt,mayBeOne,stringish,shape,Sem.run,hsa,hsb,hfb,hfe,hfa]
  |false=>
   cases hfx:w.frozen? {block:=a.block,off:=kA+1} with
   |true=>simp [run_underlying ht,hz,h0,hnb,hnb',frozen,noView,viewAt,mayBeOne,stringish,shape,Sem.run,hsa,hsb,hfb,hfe,hfa,hfx]
   |false=>simp [run_underlying ht,hz,h0,hnb,hnb',frozen,noView,viewAt,mayBeOne,stringish,shape,Sem.run,hsa,hsb,hfb,hfe,hfa,hfx]
theorem run_overlaps_same {P:Program}(w:World)(tS tR e:TypeId)(ht:P.underlying tS=some (.slice e))(size:Nat)(hz:∀w,(Go.sizeOf e).run P w=.ok size w)
  (a b:Addr) (la ca lb cb:Nat) (hsame:a.block=b.block) (hd:¬(a.off<b.off+lb*size/\b.off<a.off+la*size)):
  (Extern.SlicesOverlaps.overlaps #[tS,tS] #[tR] #[.slice (some a) la ca,.slice (some b) lb cb]).run P w=.ok (.bool false) w:=by
 have hnb:(a.block !=b.block)=false:=by simpa using hsame
 have hnb':(a.block==b.block)=true:=by simpa using hsame
 have hd':(decide (a.off<b.off+lb*size)&&decide (b.off<a.off+la*size))=false:=by
  cases h:(decide (a.off<b.off+lb*size)&&decide (b.off<a.off+la*size)) with
  |false=>rfl
  |true=>exact absurd (by simpa using h) hd
 change Sem.run P (α:=Value) (do
  let some t:=(#[tS,tS]:Array TypeId)[0]?|stuck "slices.overlaps: no parameter types"
  let .slice elem <-underlying t|stuck "slices.overlaps: slice type expected"
  let size <-sizeOf elem
  match (some a:Option Addr),(some b:Option Addr) with
  |some a,some b=>
   if la=0\/lb=0\/size=0 then pure (Value.bool false)
   else if a.block !=b.block&&(<-frozen a)&&(<-frozen b) then unsupported .addressObserved
   else do
    if a.block !=b.block then do
     noView a;noView b
     if <-mayBeOne a b then return Value.bool ((<-choose (.extern "sameAddr.stringBytes" 2))==1)
    pure (Value.bool (a.block==b.block&&a.off<b.off+lb*size&&b.off<a.off+la*size))
  |_,_=>pure (Value.bool false)) w=_
 by_cases h0:la=0\/lb=0\/size=0;·simp [run_underlying ht,hz,h0]
 simp [run_underlying ht,hz,h0,hnb,hnb',hd',frozen,Sem.run]
theorem und35:Tryz.prog.underlying 39=some (.slice 33):=by kernel_rfl
theorem info78:(Tryz.prog.info? 33).map (·.size)=some 10:=by kernel_rfl
theorem size78:∀w,(Go.sizeOf 33).run Tryz.prog w=.ok 10 w:=Tryz.sizeOf33
set_option maxHeartbeats 4000000 in
set_option maxRecDepth 100000 in
theorem ins_shift (b off n c i vb voff vc:Nat)(cs vs:List Value)(w:World)(hi:i<n)(hroom:n+1<=c)(hn3:n<=2000000)(hdis:∀j k,j<10->k<(n+1)*10->vb=b->voff+j≠off+k)
  (hcl:cs.length=n*10) (hvl:vs.length=10)
  (hcs:∀j v,cs[j]?=some v->w.cell? ⟨b,off+j,none⟩=some v) (hsp:∀j,j<(n+1)*10->(w.cell? ⟨b,off+j,none⟩).isSome=true) (hfz:∀j,j<(n+1)*10->w.frozen? ⟨b,off+j,none⟩=false)
  (hvs:∀j v,vs[j]?=some v->w.cell? ⟨vb,voff+j,none⟩=some v) (h1c:∀v∈cs,v.oneCell'=true) (h1v:∀v∈vs,v.oneCell'=true)
  (tA tB:TypeId) (kA kB:Nat) (hsa:w.shape? vb=some (tA,kA)) (hsb:w.shape? b=some (tB,kB)) (hkB:kB≠0) (hkA:kA≠0) (hfb:∀o,w.frozen? ⟨b,o,none⟩=false):
  Calls Tryz.prog 206 #[.slice (some ⟨b,off,none⟩) n c,.int .i64 i,.slice (some ⟨vb,voff,none⟩) 1 vc] w fun e w'=>
   e=.returned (.slice (some ⟨b,off,none⟩) (n+1) c)/\w'=(w.drew.setCells b (off+(i+1)*10) (cs.drop (i*10))).setCells b (off+i*10) vs:=by
 have hz2:¬((i:Int)=(n:Int)):=by omega
 have hov:∀cb,(callFunc 270 #[.slice (some ⟨vb,voff,none⟩) 1 vc,.slice (some ⟨b,off+(i+1)*10,none⟩) (n-i) cb]).run Tryz.prog w=.ok (.value (.bool false)) w:=fun cb=>by
  rw [run_callFunc_extern Tryz.func270 (by kernel_rfl) (by kernel_rfl) (by kernel_rfl) (e:=Extern.SlicesOverlaps.overlaps #[39,39] #[4]) (by kernel_rfl)];by_cases hvb:vb=b
  ·rw [run_overlaps_same w 39 4 33 und35 10 size78 ⟨vb,voff,none⟩ ⟨b,off+(i+1)*10,none⟩ 1 vc (n-i) cb hvb (fun h=>by
    obtain ⟨h1,h2⟩:=h;dsimp only at h1 h2;by_cases hlo:off+(i+1)*10<=voff;·exact hdis 0 (voff-off) (by omega) (by omega) hvb (by omega)
    exact hdis (off+(i+1)*10-voff) ((i+1)*10) (by omega) (by omega) hvb (by omega))]
   rfl
  rw [run_overlaps_own w 39 4 33 und35 10 size78 ⟨vb,voff,none⟩ ⟨b,off+(i+1)*10,none⟩ 1 vc (n-i) cb hvb tA tB kA kB hsa hsb hkB hkA (hfb _) (hfb _)];rfl
 have hdl:(cs.drop (i*10)).length=(n-i)*10:=by rw [qba,hcl];omega
 have hw1:IntKind.i64.wrap ((i:Int)+1)=(i:Int)+1:=by rw [IntKind.wrap_i64];omega
 have hb1:(0:Int)<=(i:Int)+1:=by omega
 have hin:i<=n:=by omega
 have htn:((i:Int)+1).toNat=i+1:=by omega
 have hb2:¬(c=i+1):=by omega
 have hb3:(i:Int)<=(n:Int)+1:=by omega
 have hb4:¬(c=i):=by omega
 have hcp1:∀ty dc sc,(Builtin.copy_ #[39,39] ty #[.slice (some ⟨b,off+(i+1)*10,none⟩) (n-i) dc,.slice (some ⟨b,off+i*10,none⟩) (n+1-i) sc]).run Tryz.prog w.drew=.ok (goInt (Nat.min (n+1-i) (n-i))) (w.drew.setCells b (off+(i+1)*10) (cs.drop (i*10))):=fun ty dc sc=>
  run_copy_k w.drew _ _ ty 33 10 b (off+(i+1)*10) (n-i) dc ⟨b,off+i*10,none⟩ (n+1-i) sc (cs.drop (i*10)) und35 info78 (by rw [hdl];congr 1;simp only [Nat.min_def];split<;>omega)
   (fun j v hj=>by rw [Addr.add_lit,Nat.add_assoc];exact hcs (i*10+j) v (by rwa [qa8] at hj))
   (fun j hj=>by rw [Nat.add_assoc];exact hsp _ (by omega)) (fun j hj=>by rw [Nat.add_assoc];exact hfz _ (by omega)) (fun v hv=>h1c v (List.mem_of_mem_drop hv))
 obtain ⟨W1,hW1⟩:∃W1,W1=w.drew.setCells b (off+(i+1)*10) (cs.drop (i*10)):=⟨_,rfl⟩;have hsp1:∀k,k<(n+1)*10->(W1.cell? ⟨b,off+k,none⟩).isSome=true:=fun k hk=>by rw [hW1];exact isSome_setCells b _ _ _ (fun j hj=>by rw [Nat.add_assoc];exact hsp _ (by omega)) _ (hsp k hk)
 have hcp2:∀(W:World),(∀x,W.cell? x=W1.cell? x)->(∀x,W.frozen? x=W1.frozen? x)->∀ty dc,(Builtin.copy_ #[39,39] ty #[.slice (some ⟨b,off+i*10,none⟩) (n+1-i) dc,.slice (some ⟨vb,voff,none⟩) 1 vc]).run Tryz.prog W=.ok (goInt (Nat.min 1 (n+1-i))) (W.setCells b (off+i*10) vs):=fun W hWc hWf ty dc=>
  run_copy_k W _ _ ty 33 10 b (off+i*10) (n+1-i) dc ⟨vb,voff,none⟩ 1 vc vs und35 info78 (by rw [hvl];simp only [Nat.min_def];split<;>omega)
   (fun j v hj=>by
    have hj':j<10:=by rw [<-hvl];exact (qaY.1 hj).1
    rw [Addr.add_lit,hWc,hW1,World.cell?_setCells_out b _ _ _ _ (fun h _=>by
     dsimp only at h ⊢;have h5:=hdis j (voff+j-off) hj';by_cases h6:off<=voff+j/\voff+j-off<(n+1)*10;·exact absurd (by omega) (h5 h6.2 h)
     omega)]
    exact hvs j v hj)
   (fun j hj=>by rw [hWc,Nat.add_assoc];exact hsp1 _ (by omega)) (fun j hj=>by rw [hWf,hW1,World.frozen?_setCells,Nat.add_assoc];exact hfz _ (by omega)) h1v
 rw [<-hW1] at hcp1;have mixed:Tryz.prog.follows .mixedOrders=true:=by kernel_rfl
 go_enter Tryz.func206,Tryz.ntmps206
 go_wp2_with (simp only [hov])
 go_region_law_o (refine step_copy_runI rfl _ _ 39 39 rfl _ _ (by simp [Act.eval,Act.put]) (by simp [Act.eval,Act.put]) (hcp1 _ _ _) ?_)
 go_wp2_with (at_builtin;refine wpList_copy_runI _ rfl _ _ 39 39 rfl _ _ rfl rfl (hcp2 _ (fun _=>rfl) (fun _=>rfl) _ _) ?_)
 go_ret
 first|exact ⟨rfl,rfl⟩|exact ⟨rfl,by rw [hW1]⟩
set_option maxHeartbeats 4000000 in
set_option maxRecDepth 100000 in
theorem ins_end (ob:Option Addr)(n c vb voff vc:Nat)(w w1:World)(v:Value)(hnc:n<=c)(hn3:n<=2000000)(hnil:ob=none->n=0/\c=0)
  (hrun:∀ty,(Builtin.append_ #[39,39] ty #[.slice ob n c,.slice (some ⟨vb,voff,none⟩) 1 vc]).run Tryz.prog w=.ok v w1):
  Calls Tryz.prog 206 #[.slice ob n c,.int .i64 n,.slice (some ⟨vb,voff,none⟩) 1 vc] w fun e w'=>e=.returned v/\w'=w1:=by
 have mixed:Tryz.prog.follows .mixedOrders=true:=by kernel_rfl
 go_enter Tryz.func206,Tryz.ntmps206
 cases ob with
 |none=>
  obtain ⟨rfl,rfl⟩:=hnil rfl
  go_wp2_with (at_builtin;refine Lib.wpList_append_run _ rfl _ _ _ _ rfl _ _ rfl rfl _ _ (hrun _) ?_)
  go_ret
  exact ⟨rfl,rfl⟩
 |some a=>
  obtain ⟨ab,ao,asp⟩:=a
  go_wp2_with (at_builtin;refine Lib.wpList_append_run _ rfl _ _ _ _ rfl _ _ rfl rfl _ _ (hrun _) ?_)
  all_goals (go_ret;exact ⟨rfl,rfl⟩)
def IsRow (r:Array Value)(l:List Value):Prop:=r=l.toArray
theorem info78b:(Tryz.prog.info? 33).map (fun i=>(i.zero.map (·.cells.size),i.size,i.bytes))=some (some 10,10,152):=by kernel_rfl
theorem und3:Tryz.prog.underlying 3=some (.int .i64):=by kernel_rfl
set_option maxHeartbeats 4000000 in
set_option maxRecDepth 100000 in
theorem ins_grow (b off n c i vb voff vc:Nat)(cs vs:List Value)(w:World)(hi:i<n)(hnc:n<=c)(hroom:c<n+1)(hc63:c<=4000000)
  (hcl:cs.length=n*10) (hvl:vs.length=10)
  (hcs:∀j v,cs[j]?=some v->w.cell? ⟨b,off+j,none⟩=some v)
  (hvs:∀j v,vs[j]?=some v->w.cell? ⟨vb,voff+j,none⟩=some v) (h1c:∀v∈cs,v.oneCell'=true) (h1v:∀v∈vs,v.oneCell'=true):
  Calls Tryz.prog 206 #[.slice (some ⟨b,off,none⟩) n c,.int .i64 i,.slice (some ⟨vb,voff,none⟩) 1 vc] w fun e w'=>
   ∃(G:Nat) (tl:List Value),n+1<=G/\e=.returned (.slice (some ⟨w.heap.size,0,none⟩) (n+1) G)/\tl.length=(G-i)*10/\
   w'=(((w.alloc (.cells ((cs.take (i*10))++tl).toArray 33)).drew.setCells w.heap.size (i*10) vs).drew).setCells w.heap.size ((i+1)*10) (cs.drop (i*10)):=by
 obtain ⟨i0,hi0,hz0,hzs,hzb⟩:∃i0,Tryz.prog.info? 33=some i0/\i0.zero.map (·.cells.size)=some 10/\i0.size=10/\i0.bytes=152:=by obtain ⟨i0,h1,h2⟩:=qa1.1 info78b;simp only [qaH] at h2;exact ⟨i0,h1,h2.1,h2.2.1,h2.2.2⟩
 obtain ⟨zv,hz0,hzc⟩:=qa1.1 hz0;have hz2:¬((i:Int)=(n:Int)):=by omega
 have hz3:(c:Int)<(n:Int)+1:=by omega
 have hbw:b<w.heap.size:=block_lt_of_cell (hcs 0 _ (qa3 (by omega)));have hvw:vb<w.heap.size:=block_lt_of_cell (hvs 0 _ (qa3 (by omega)));have hkk:(n:Int)+1-(i:Int)=((n+1-i:Nat):Int):=by omega
 have hik:i+(n+1-i)=n+1:=by omega
 have hold:(Builtin.firstCells i0.size i (.slice (some ⟨b,off,none⟩) i c)).run Tryz.prog w.drew=.ok (cs.take (i*10)).toArray w.drew:=by
  rw [hzs];exact run_firstCells_some w.drew 10 i ⟨b,off,none⟩ i c (cs.take (i*10)) (by rw [qaN];omega) (fun j v hj=>by
   rw [Addr.add_lit];rw [qbb] at hj;split at hj;·exact hcs j v hj
   cases hj)
 have hrz:∀ty,(Builtin.append_ #[39,3] ty #[.slice (some ⟨b,off,none⟩) i c,.int .i64 ((n:Int)+1-(i:Int))]).run Tryz.prog w=
   .ok (.slice (some ⟨w.heap.size,0,none⟩) (n+1) (grownCap w (n+1) c 33)) (w.drew.alloc (.cells ((cs.take (i*10)).toArray++Builtin.zeroCells zv.cells (n+1-i)++Builtin.zeroCells zv.cells (grownCap w (n+1) c 33-(n+1))) 33)):=fun ty=>by
  have h:=Lib.run_append_grow_zeros w 39 3 ty 33 i0 zv .i64 .i64 und35 und3 hi0 hz0 (some ⟨b,off,none⟩) i c (cs.take (i*10)) hold (n+1-i) (by omega) (by omega) (by omega) (by omega) (by rw [hzb];omega) (by rw [hzb,hik];exact growslice_fits hroom (by omega));rw [hik] at h;rw [hkk];exact h
 have hGn:n+1<=grownCap w (n+1) c 33:=grownCap_ge w _ _ _;have hG63:grownCap w (n+1) c 33<=9223372036854775807:=by have:=grownCap_le_maxLen w (n+1) c 33 (by unfold maxLen;omega);unfold maxLen at this;omega
 generalize grownCap w (n+1) c 33=G at hrz hGn hG63;have hzl:∀k,(Builtin.zeroCells zv.cells k).size=k*10:=fun k=>by simp [Builtin.zeroCells,hzc]
 obtain ⟨tl,htl⟩:∃tl:List Value,(cs.take (i*10)).toArray++Builtin.zeroCells zv.cells (n+1-i)++Builtin.zeroCells zv.cells (G-(n+1))=((cs.take (i*10))++tl).toArray/\tl.length=(G-i)*10:=by
  refine ⟨(Builtin.zeroCells zv.cells (n+1-i)).toList++(Builtin.zeroCells zv.cells (G-(n+1))).toList,?_,?_⟩;·apply Array.toList_inj.1;simp
  rw [qaZ,Array.length_toList,Array.length_toList,hzl,hzl];omega
 obtain ⟨htl,htll⟩:=htl;rw [htl] at hrz;obtain ⟨ROW,hROW⟩:∃ROW:Array Value,ROW=((cs.take (i*10))++tl).toArray:=⟨_,rfl⟩;have hRl:(n+1)*10<=ROW.size:=by rw [hROW];simp only [List.size_toArray,qaZ,qaN,htll];omega
 rw [<-hROW] at hrz;obtain ⟨W1,hW1⟩:∃W1,W1=w.drew.alloc (.cells ROW 33):=⟨_,rfl⟩;rw [<-hW1] at hrz;have hN:∀j,j<(n+1)*10->(W1.cell? ⟨w.heap.size,j,none⟩).isSome=true:=fun j hj=>by rw [hW1,World.cell?_alloc_at (w:=w.drew) ROW _ w.heap.size j rfl,qa7 (by omega)];rfl
 have hNf:∀j,W1.frozen? ⟨w.heap.size,j,none⟩=false:=fun j=>by rw [hW1];exact World.frozen?_alloc_at (w:=w.drew) ROW _ w.heap.size j rfl
 have hOb:∀j v,w.cell? ⟨b,j,none⟩=some v->W1.cell? ⟨b,j,none⟩=some v:=fun j v h=>by rw [hW1,World.cell?_alloc_past (w:=w.drew) _ b j hbw];exact h
 have hOv:∀j v,w.cell? ⟨vb,j,none⟩=some v->W1.cell? ⟨vb,j,none⟩=some v:=fun j v h=>by rw [hW1,World.cell?_alloc_past (w:=w.drew) _ vb j hvw];exact h
 have hcpA:∀(W:World),(∀x,W.cell? x=W1.cell? x)->(∀x,W.frozen? x=W1.frozen? x)->∀ty dc,(Builtin.copy_ #[39,39] ty #[.slice (some ⟨w.heap.size,i*10,none⟩) (n+1-i) dc,.slice (some ⟨vb,voff,none⟩) 1 vc]).run Tryz.prog W=.ok (goInt (Nat.min 1 (n+1-i))) (W.setCells w.heap.size (i*10) vs):=fun W hWc hWf ty dc=>
  run_copy_k W _ _ ty 33 10 w.heap.size (i*10) (n+1-i) dc ⟨vb,voff,none⟩ 1 vc vs und35 info78 (by rw [hvl];simp only [Nat.min_def];split<;>omega)
   (fun j v hj=>by rw [Addr.add_lit,hWc];exact hOv _ v (hvs j v hj))
   (fun j hj=>by rw [hWc];exact hN _ (by omega)) (fun j hj=>by rw [hWf];exact hNf _) h1v
 have hGi:¬(G=i):=by omega
 have hGim:¬(G=i+1):=by omega
 have hci:¬(c=i):=by omega
 have hbN:b≠w.heap.size:=by omega
 have hdl:(cs.drop (i*10)).length=(n-i)*10:=by rw [qba,hcl];omega
 have hcpB:∀(W:World),(∀x,W.cell? x=(W1.setCells w.heap.size (i*10) vs).cell? x)->(∀x,W.frozen? x=(W1.setCells w.heap.size (i*10) vs).frozen? x)->∀ty dc sc,(Builtin.copy_ #[39,39] ty #[.slice (some ⟨w.heap.size,(i+1)*10,none⟩) (n-i) dc,.slice (some ⟨b,off+i*10,none⟩) (n-i) sc]).run Tryz.prog W=.ok (goInt (Nat.min (n-i) (n-i))) (W.setCells w.heap.size ((i+1)*10) (cs.drop (i*10))):=fun W hWc hWf ty dc sc=>
  run_copy_k W _ _ ty 33 10 w.heap.size ((i+1)*10) (n-i) dc ⟨b,off+i*10,none⟩ (n-i) sc (cs.drop (i*10)) und35 info78 (by rw [hdl];simp)
   (fun j v hj=>by rw [Addr.add_lit,hWc,World.cell?_setCells_out _ _ _ _ _ (fun h _=>absurd h hbN),Nat.add_assoc];exact hOb _ v (hcs (i*10+j) v (by rwa [qa8] at hj)))
   (fun j hj=>by rw [hWc];exact isSome_setCells _ _ _ _ (fun t ht=>hN _ (by omega)) _ (hN _ (by omega)))
   (fun j hj=>by rw [hWf,World.frozen?_setCells];exact hNf _) (fun v hv=>h1c v (List.mem_of_mem_drop hv))
 subst hW1;have hE1:∀x,((w.alloc (.cells ROW 33)).drew).cell? x=(w.drew.alloc (.cells ROW 33)).cell? x:=fun x=>rfl;have hE2:∀x,((w.alloc (.cells ROW 33)).drew).frozen? x=(w.drew.alloc (.cells ROW 33)).frozen? x:=fun x=>rfl;have hF1:∀x,(((w.alloc (.cells ROW 33)).drew.setCells w.heap.size (i*10) vs).drew).cell? x=((w.drew.alloc (.cells ROW 33)).setCells w.heap.size (i*10) vs).cell? x:=fun x=>rfl;have hF2:∀x,(((w.alloc (.cells ROW 33)).drew.setCells w.heap.size (i*10) vs).drew).frozen? x=((w.drew.alloc (.cells ROW 33)).setCells w.heap.size (i*10) vs).frozen? x:=fun x=>rfl;have hw1:IntKind.i64.wrap ((i:Int)+1)=(i:Int)+1:=by rw [IntKind.wrap_i64];omega
 have hb1:(0:Int)<=(i:Int)+1:=by omega
 have hin:i<=n:=by omega
 have htn:((i:Int)+1).toNat=i+1:=by omega
 have hb3:(i:Int)<=(n:Int):=by omega
 have mixed:Tryz.prog.follows .mixedOrders=true:=by kernel_rfl
 have hkeep:IsRow ROW ((cs.take (i*10))++tl):=hROW;clear hkk hik hold hRl htl hROW
 go_enter Tryz.func206,Tryz.ntmps206
 go_wp2_with (first
  |(at_builtin;refine Lib.wpList_append_run _ rfl _ _ _ _ rfl _ _ rfl rfl _ _ (hrz _) ?_)
  |(at_builtin;refine wpList_copy_runI _ rfl _ _ 39 39 rfl _ _ rfl rfl (hcpA _ hE1 hE2 _ _) ?_)
  |(at_builtin;refine wpList_copy_runI _ rfl _ _ 39 39 rfl _ _ rfl rfl (hcpB _ (fun _=>rfl) (fun _=>rfl) _ _ _) ?_))
 go_region_law_o (refine step_copy_runI rfl _ _ 39 39 rfl (.slice (some ⟨w.heap.size,(i+1)*10,none⟩) (n-i) (G-(i+1))) (.slice (some ⟨b,off+i*10,none⟩) (n-i) (c-i)) (by simp [Act.eval,Act.put]) (by simp [Act.eval,Act.put]) (hcpB _ hF1 hF2 3 (G-(i+1)) (c-i)) ?_)
 go_wp2
 go_ret
 exact ⟨G,tl,hGn,rfl,htll,by unfold IsRow at hkeep;rw [<-hkeep]⟩
section
variable {P:Program} {R:CodeRel} {K:Kn}
theorem post_move {w w':World}{c0 c':CB}{sz:Nat}{new:qbI}{res:X}(hI:Inv P R K [c0] [.row sz rows] w)(hf:FrameOk c0.owns w w')(hown:∀b o,c'.owns b o->c0.owns b o\/w.heap.size<=b)
  (hB:BoxOk P R K ([c0]++[c']) w' (.row sz new) c') (hres:Rep K ([c0]++[c']) res v):Post P R K [c0] [.row sz rows] w res [.dead,.row sz new] (.returned v) w':=by
 have hdead:∀b o,¬Owns [c0] [Bx.dead] b o:=by
  rintro b o ⟨i,c,B,h1,h2,h3,h4⟩
  cases i with
  |zero=>simp at h2;subst h2;simp [Bx.live] at h3
  |succ i=>simp at h2
 have hin:∀b o,c0.owns b o->Owns [c0] [Bx.row sz rows] b o:=fun b o h=>⟨0,c0,.row sz rows,rfl,rfl,rfl,h⟩;have hk:=hI.kill 0;have hk':Inv P R K [c0] [.dead] w':=Inv.frame hk hf (fun b o v e ho=>by have:=hI.apart b o (hin b o ho);rw [this] at e;cases e) (fun b o ho=>absurd ho (hdead b o));refine ⟨v,K,[c'],rfl,⟨hk'.push hB (fun b o ho=>?_) (fun b o _=>hdead b o),hres,KLe.refl _,fun b o u e=>.inl e,fun b o ho=>?_,hf.mono fun b o _ h=>hin b o h,fun i B e hl=>?_⟩⟩
 ·rcases hown b o ho with h|h;·exact hI.apart b o (hin b o h)
  cases hk:K b o with
  |none=>rfl
  |some u=>have:=hI.known_lt hk;omega
 ·obtain ⟨i,c,B,h1,h2,h3,h4⟩:=ho
  match i,h1,h2 with
  |0,h1,h2=>simp at h2;subst h2;simp [Bx.live] at h3
  |1,h1,h2=>
   simp at h1;subst h1;rcases hown b o h4 with h|h;·exact .inl (hin b o h)
   exact .inr h
  |i+2,h1,h2=>simp at h2
 cases i with
 |zero=>simp at e;subst e;cases hl
 |succ i=>simp at e
theorem splice_get (l vs:List Value)(o q:Nat)(h:o+vs.length<=l.length):(l.take o++vs++l.drop (o+vs.length)).toArray[q]?=if q<o then l[q]? else if q<o+vs.length then vs[q-o]? else l[q]?:=by
 have hT:(l.take o).length=o:=by rw [qaN];omega
 rw [List.getElem?_toArray];by_cases h5:q<o;·rw [if_pos h5,qbj,qa6 (by omega),qbb,if_pos h5]
 rw [if_neg h5,qbj,qbf (by omega),hT];by_cases h6:q<o+vs.length;·rw [if_pos h6,qa6 (by omega)]
 rw [if_neg h6,qbf (by omega),qa8]
 congr 1;omega
theorem setCells_row (W:World)(b o:Nat)(arr:Array Value)(el:TypeId)(vs:List Value)(hb:W.heap[b]?=some (.cells arr el (0,0)))(hl:o+vs.length<=arr.size)(h1:∀v∈vs,v.oneCell'=true):
  W.setCells b o vs=W.setRow b (arr.toList.take o++vs++arr.toList.drop (o+vs.length)).toArray:=by
 have hc:∀j,j<vs.length->(W.cell? ⟨b,o+j,none⟩).isSome=true:=fun j hj=>by simp only [World.cell?,hb];rw [qa7 (by omega)];rfl
 have hf:∀j,j<vs.length->W.frozen? ⟨b,o+j,none⟩=false:=fun j hj=>by simp [World.frozen?,hb]
 have e1:=run_storeCells_cells (P:=Tryz.prog) b o vs 0 W (by simpa using hc) (by simpa using hf) h1;have e2:=run_storeCells_at Tryz.prog b o el vs 0 arr W hb (by omega) h1;rw [e1] at e2;simp only [Nat.add_zero] at e2;injection e2
theorem ins_flat {K:Kn}{x:List X}(hf:Flat K 10 rows cs)(hv:Flat K 10 [x] vs)(i:Nat):Flat K 10 (rows.take i++[x]++rows.drop i) (cs.take (i*10)++vs++cs.drop (i*10)):=
 ((hf.take i).append hv).append (hf.drop i)
theorem ins_get {n i k:Nat}(hcl:cs.length=n*10)(hvl:vs.length=10)(hi:i<=n)(h:(cs.take (i*10)++vs++cs.drop (i*10))[k]?=some v):
  (k<i*10/\cs[k]?=some v)\/(i*10<=k/\k<(i+1)*10/\vs[k-i*10]?=some v)\/((i+1)*10<=k/\k<(n+1)*10/\cs[k-10]?=some v):=by
 have hT:(cs.take (i*10)).length=i*10:=by rw [qaN];omega
 by_cases h1:k<i*10;·rw [qbj,qa6 (by omega),qbb,if_pos h1] at h;exact .inl ⟨h1,h⟩
 rw [qbj,qbf (by omega),hT] at h;by_cases h2:k<(i+1)*10;·rw [qa6 (by omega)] at h;exact .inr (.inl ⟨by omega,h2,h⟩)
 rw [qbf (by omega),qa8] at h;have e:i*10+(k-i*10-vs.length)=k-10:=by omega
 rw [e] at h;have:=(qaY.1 h).1;exact .inr (.inr ⟨by omega,by omega,h⟩)
set_option maxRecDepth 100000 in
theorem ins_sem {R:CodeRel}(n i:Nat)(t:Bool)(x:List X)(rows:qbI)(hi:i<=n)(hn:n=rows.length)(hn2:n<=2000000):
  FSem Tryz.prog R 206 [.bs 0 0 n,.v (.int .i64 (Int.ofNat i)),.sl t 10 [x]] [.row 10 rows] (.bs 1 0 (n+1)) [.dead,.row 10 (rows.take i++[x]++rows.drop i)]:=by
 intro K C w cargs hI ha;have hs:cargs.size=3:=ha.1;have r0:=ha.2 0 _ cargs[0] rfl (qa7 (by omega));have r1:=ha.2 1 _ cargs[1] rfl (qa7 (by omega));have r2:=ha.2 2 _ cargs[2] rfl (qa7 (by omega));have hca:cargs=#[cargs[0],cargs[1],cargs[2]]:=by
  refine Array.ext (by simp [hs]) fun j h1 h2=>?_
  match j,h1,h2 with
  |0,_,_=>rfl
  |1,_,_=>rfl
  |2,_,_=>rfl
  |j+3,h1,_=>omega
 rw [hca];generalize cargs[0]=v0 at r0;generalize cargs[1]=v1 at r1;generalize cargs[2]=v2 at r2;obtain rfl:=rep_v r1;obtain ⟨c0,hC⟩:∃c0,C=[c0]:=by
  have:=hI.size
  match C,this with
  |[c0],_=>exact ⟨c0,rfl⟩
 subst hC;obtain ⟨vb,vo,c2,rfl⟩:∃vb vo c2,v2=.slice (some ⟨vb,vo,none⟩) 1 c2:=by
  generalize hx:X.sl t 10 [x]=y at r2;cases r2<;>try cases hx
  exact ⟨_,_,_,rfl⟩
 obtain ⟨vs,hv,hvK⟩:=r2.flat;have hvl:vs.length=10:=by simpa using hv.len
 have hvs:∀j v,vs[j]?=some v->w.cell? ⟨vb,vo+j,none⟩=some v:=fun j v h=>hI.known _ _ _ (hvK j v h);have h1v:=hv.oneCell;obtain ⟨tA,kA,hsa,hkA⟩:∃tA kA,w.shape? vb=some (tA,kA)/\kA≠0:=by
  have h0:=hvs 0 _ (qa3 (by omega));unfold World.cell? at h0;split at h0;next arr el fr hh=>refine ⟨el,arr.size,by simp [World.shape?,hh],fun e=>?_⟩;have:=(qbA.1 h0).1;omega
  cases h0
 have hvfc:∀w':World,w'.heap=w.heap->(Builtin.firstCells 10 1 (.slice (some ⟨vb,vo,none⟩) 1 c2)).run Tryz.prog w'=.ok vs.toArray w':=fun w' hw=>by refine run_firstCells_some w' 10 1 ⟨vb,vo,none⟩ 1 c2 vs (by omega) (fun j u hu=>?_);rw [Addr.add_lit];have:=hvs j u hu;simp only [World.cell?,hw] at this ⊢;exact this
 have hz78:(zeroP Tryz.prog 33).isSome=true:=by kernel_rfl
 obtain ⟨z78,hz78⟩:=Option.isSome_iff_exists.1 hz78;have hs78:sizeP Tryz.prog 33=some 10:=by kernel_rfl
 have hb78:bytesP Tryz.prog 33=some 152:=by kernel_rfl
 have endGrow:∀(ob:Option Addr) (c:Nat) (olds:List Value),i=n->n<=c->c<n+1->(ob=none->n=0/\c=0)->Flat K 10 rows olds->(∀w':World,w'.heap=w.heap->(Builtin.firstCells 10 n (.slice ob n c)).run Tryz.prog w'=.ok olds.toArray w')->
   Calls Tryz.prog 206 #[.slice ob n c,.int .i64 (Int.ofNat i),.slice (some ⟨vb,vo,none⟩) 1 c2] w (Post Tryz.prog R K [c0] [.row 10 rows] w (.bs 1 0 (n+1)) [.dead,.row 10 (rows.take i++[x]++rows.drop i)]):=by
  intro ob c olds hin hnc hcn hnil hfo hfco;subst hin;have hex:∃rest:List Value,(∀ty,(Builtin.append_ #[39,39] ty #[.slice ob i c,.slice (some ⟨vb,vo,none⟩) 1 c2]).run Tryz.prog w=.ok (.slice (some ⟨w.heap.size,0,none⟩) (i+1) (grownCap w (i+1) c 33)) (w.drew.alloc (.cells (olds++vs++rest).toArray 33)))/\rest.length=(grownCap w (i+1) c 33-(i+1))*10:=by obtain ⟨rest,h1,h2⟩:=run_app_grow (P:=Tryz.prog) (w:=w) (ty:=0) (ob:=ob) (oc:=some ⟨vb,vo,none⟩) (n:=i) (cap:=c) (m:=1) (c:=c2) und35 und35 hs78 hb78 hz78 olds vs hfco hvfc hcn (by omega) (by omega) (by omega);exact ⟨rest,fun ty=>h1,h2⟩
  obtain ⟨rest,hrun,hrl⟩:=hex;have hm:=grownCap_ge w (i+1) c 33;generalize grownCap w (i+1) c 33=m at hrun hrl hm;refine (ins_end ob i c vb vo c2 w _ _ hnc hn2 hnil hrun).mono ?_
  rintro e w' ⟨rfl,rfl⟩
  have hfl:=hfo.append hv;have e1:rows.take i++[x]++rows.drop i=rows++[x]:=by rw [hn,List.take_length,List.drop_length,List.append_nil]
  rw [e1];have hol:olds.length=i*10:=by rw [hfo.len,<-hn]
  have hsz:(olds++vs++rest).toArray.size=m*10:=by simp only [List.size_toArray,qaZ,hol,hvl,hrl];omega
  refine post_move (c':=.at w.heap.size 0 (m*10) 10) hI (FrameOk.trans (FrameOk.drew _ w) (FrameOk.alloc (S:=c0.owns) _ _) (fun _ _ _ h=>h)) (fun b o h=>.inr (by rw [h.1];exact Nat.le_refl _)) (hfl.box (alloc_get w.drew _) (fun k v hk=>?_) (by simp only [qaZ,List.length_singleton];omega) (by omega)) ?_;·rw [Nat.zero_add,List.getElem?_toArray,qa6 (qaY.1 hk).1];exact hk
  have:=@Rep.bs K ([c0]++[.at w.heap.size 0 (m*10) 10]) 1 0 (i+1) w.heap.size 0 (m*10) 10 m rfl (by omega) (by omega);simpa using this
 generalize hx0:X.bs 0 0 n=y0 at r0;cases r0<;>try cases hx0
 case bsNil ob hc=>
  have e0:c0=.ghost:=by simpa using hc
  subst e0;have hi0:i=0:=by omega
  have hr0:rows=[]:=qbx hn.symm;refine endGrow ob 0 [] hi0 (Nat.le_refl _) (by omega) (fun _=>⟨rfl,rfl⟩) (by rw [hr0];exact Flat.nil) (fun w' _=>?_);cases ob<;>simp [Builtin.firstCells,loadCells,loadCellsFrom]
 case bs b base hi' sz cap hc hcap hlen=>
  have e0:c0=.at b base hi' sz:=by simpa using hc
  subst e0;obtain ⟨arr,el,g1,g2,g3,hbl,hfe⟩:=(hI.box 0 _ _ rfl rfl).flat;subst g1;simp only [Nat.zero_mul,Nat.zero_add,Nat.add_zero] at hcap ⊢;generalize hcd:(arr.toList.drop base).take (rows.length*10)=cs at hfe;have hcl:cs.length=n*10:=by rw [hfe.len,<-hn]
  have hcar:∀j v,cs[j]?=some v->arr[base+j]?=some v:=fun j v h=>by
   rw [<-hcd,qbb] at h;split at h;·rw [qa8] at h;simpa using h
   cases h
  have hcs:∀j v,cs[j]?=some v->w.cell? ⟨b,base+j,none⟩=some v:=fun j v h=>by simp only [World.cell?,hbl];exact hcar j v h
  have h1c:=hfe.oneCell;have hnk:∀o,base<=o->o<hi'->K b o=none:=fun o h1 h2=>hI.apart b o ⟨0,_,_,rfl,rfl,rfl,⟨rfl,h1,h2⟩⟩;have hfz:∀o,w.frozen? ⟨b,o,none⟩=false:=fun o=>by simp [World.frozen?,hbl]
  have hflat:=ins_flat hfe hv i;by_cases hin:i=n
  ·by_cases hfit:n+1<=cap
   ·subst hin;have hst:=run_storeCells_at Tryz.prog b (base+i*10) el vs 0 arr w hbl (by omega) h1v;simp only [Nat.add_zero] at hst;have hrun:∀ty,(Builtin.append_ #[39,39] ty #[.slice (some ⟨b,base,none⟩) i cap,.slice (some ⟨vb,vo,none⟩) 1 c2]).run Tryz.prog w=.ok (.slice (some ⟨b,base,none⟩) (i+1) cap) (w.setRow b (arr.toList.take (base+i*10)++vs++arr.toList.drop (base+i*10+vs.length)).toArray):=fun ty=>run_app_fit (P:=Tryz.prog) (ty:=ty) (ob:=some ⟨b,base,none⟩) und35 und35 hs78 vs _ (hvfc w rfl) hfit (fun ad e=>by cases e;rw [Addr.add_lit];exact hst) (fun e=>by cases e);refine (ins_end _ i cap vb vo c2 w _ _ (by omega) hn2 (fun e=>by cases e) hrun).mono ?_
    rintro e w' ⟨rfl,rfl⟩
    have hget:∀q,(arr.toList.take (base+i*10)++vs++arr.toList.drop (base+i*10+vs.length)).toArray[q]?=if q<base+i*10 then arr[q]? else if q<base+i*10+vs.length then vs[q-(base+i*10)]? else arr[q]?:=fun q=>by rw [splice_get _ _ _ _ (by have:arr.toList.length=arr.size:=Array.length_toList;omega)];simp
    have hsize:(arr.toList.take (base+i*10)++vs++arr.toList.drop (base+i*10+vs.length)).toArray.size=arr.size:=by simp;omega
    generalize (arr.toList.take (base+i*10)++vs++arr.toList.drop (base+i*10+vs.length)).toArray=arr' at hget hsize;refine post_move (c':=.at b base hi' 10) hI (FrameOk.setRow hbl hsize fun q hq=>?_) (fun b' o' h=>.inl h) (hflat.box (setRow_heap w b arr arr' el _ hbl) (fun k v hk=>?_) (by rw [hflat.len.symm.trans (by simp;omega:_=(i+1)*10)];omega) (by omega)) ?_
    ·rw [hget];have hout:¬(base<=q/\q<hi'):=fun hh=>hq ⟨rfl,hh.1,hh.2⟩;by_cases h5:q<base+i*10;·rw [if_pos h5]
     rw [if_neg h5,if_neg (by omega)]
    ·rw [hget];rcases ins_get hcl hvl (Nat.le_refl _) hk with ⟨h1,h2⟩|⟨h1,h2,h3⟩|⟨h1,h2,h3⟩;·rw [if_pos (by omega)];exact hcar k v h2
     ·rw [if_neg (by omega),if_pos (by omega),<-h3];congr 1;omega
     omega
    have:=@Rep.bs K ([.at b base hi' 10]++[.at b base hi' 10]) 1 0 (i+1) b base hi' 10 cap rfl (by omega) hfit;simpa using this
   refine endGrow (some ⟨b,base,none⟩) cap cs hin (by omega) (by omega) (fun e=>by cases e) hfe (fun w' hw=>?_);refine run_firstCells_some w' 10 n ⟨b,base,none⟩ n cap cs (by omega) (fun j u hu=>?_);rw [Addr.add_lit];have:=hcs j u hu;simp only [World.cell?,hw] at this ⊢;exact this
  have hil:i<n:=by omega
  by_cases hfit:n+1<=cap
  ·have hlb:arr.toList.length=arr.size:=Array.length_toList;have hsh:w.shape? b=some (el,arr.size):=by simp [World.shape?,hbl]
   refine (ins_shift b base n cap i vb vo c2 cs vs w hil hfit hn2 (fun j k hj hk e hne=>?_) hcl hvl hcs (fun j hj=>?_) (fun j _=>hfz _) hvs h1c h1v tA el kA arr.size hsa hsh (by omega) hkA hfz).mono ?_;·have hk1:=hvK j _ (qa3 (by omega));rw [e,hne,hnk _ (by omega) (by omega)] at hk1;cases hk1
   ·simp only [World.cell?,hbl];rw [qa7 (by omega)];rfl
   rintro e w' ⟨rfl,rfl⟩
   have hdl:(cs.drop (i*10)).length=(n-i)*10:=by rw [qba,hcl];omega
   have hbl2:w.drew.heap[b]?=some (.cells arr el (0,0)):=hbl;rw [setCells_row w.drew b _ arr el _ hbl2 (by omega) (fun v hv'=>h1c v (List.mem_of_mem_drop hv'))];have hget1:=fun q=>splice_get arr.toList (cs.drop (i*10)) (base+(i+1)*10) q (by omega);have hsz1:(arr.toList.take (base+(i+1)*10)++cs.drop (i*10)++arr.toList.drop (base+(i+1)*10+(cs.drop (i*10)).length)).toArray.size=arr.size:=by simp only [List.size_toArray,qaZ,qaN,qba,hlb];omega
   generalize (arr.toList.take (base+(i+1)*10)++cs.drop (i*10)++arr.toList.drop (base+(i+1)*10+(cs.drop (i*10)).length)).toArray=arr1 at hget1 hsz1 ⊢;have hb1:=setRow_heap w.drew b arr arr1 el (0,0) hbl2;have hlb1:arr1.toList.length=arr1.size:=Array.length_toList;rw [setCells_row _ b _ arr1 el _ hb1 (by omega) h1v];have hget2:=fun q=>splice_get arr1.toList vs (base+i*10) q (by omega);have hsz2:(arr1.toList.take (base+i*10)++vs++arr1.toList.drop (base+i*10+vs.length)).toArray.size=arr1.size:=by simp only [List.size_toArray,qaZ,qaN,qba,hlb1];omega
   generalize (arr1.toList.take (base+i*10)++vs++arr1.toList.drop (base+i*10+vs.length)).toArray=arr2 at hget2 hsz2 ⊢;have hb2:=setRow_heap _ b arr1 arr2 el (0,0) hb1;simp only [Array.getElem?_toList] at hget1 hget2;refine post_move (c':=.at b base hi' 10) hI (FrameOk.trans (FrameOk.drew _ w) (FrameOk.trans (FrameOk.setRow hbl2 hsz1 fun q hq=>?_) (FrameOk.setRow (S:=(CB.at b base hi' 10).owns) hb1 hsz2 fun q hq=>?_) (fun _ _ _ h=>h)) (fun _ _ _ h=>h)) (fun b' o' h=>.inl h) (hflat.box hb2 (fun k v hk=>?_) ?_ (by omega)) ?_
   ·rw [hget1];have hout:¬(base<=q/\q<hi'):=fun hh=>hq ⟨rfl,hh.1,hh.2⟩;by_cases h5:q<base+(i+1)*10;·rw [if_pos h5]
    rw [if_neg h5,if_neg (by omega)]
   ·rw [hget2];have hout:¬(base<=q/\q<hi'):=fun hh=>hq ⟨rfl,hh.1,hh.2⟩;by_cases h5:q<base+i*10;·rw [if_pos h5]
    rw [if_neg h5,if_neg (by omega)]
   ·rw [hget2];rcases ins_get hcl hvl hi hk with ⟨h1,h2⟩|⟨h1,h2,h3⟩|⟨h1,h2,h3⟩;·rw [if_pos (by omega),hget1,if_pos (by omega)];exact hcar k v h2
    ·rw [if_neg (by omega),if_pos (by omega),<-h3];congr 1;omega
    rw [if_neg (by omega),if_neg (by omega),hget1,if_neg (by omega),if_pos (by omega),qa8,<-h3];congr 1;omega
   ·have:=hflat.len;simp only [qaZ,qaN,qba,List.length_singleton];omega
   have:=@Rep.bs K ([.at b base hi' 10]++[.at b base hi' 10]) 1 0 (n+1) b base hi' 10 cap rfl (by omega) hfit;simpa using this
  refine (ins_grow b base n cap i vb vo c2 cs vs w hil (by omega) (by omega) (by omega) hcl hvl hcs hvs h1c h1v).mono ?_
  rintro e w' ⟨G,tl,hG,rfl,htl,rfl⟩
  have hdl:(cs.drop (i*10)).length=(n-i)*10:=by rw [qba,hcl];omega
  have hTl:(cs.take (i*10)).length=i*10:=by rw [qaN];omega
  generalize hA:(cs.take (i*10)++tl).toArray=A;have hAs:A.size=G*10:=by rw [<-hA,List.size_toArray,qaZ,hTl,htl];omega
  have hlA:A.toList.length=A.size:=Array.length_toList;have hb0:(w.alloc (.cells A 33)).drew.heap[w.heap.size]?=some (.cells A 33 (0,0)):=alloc_get w _;rw [setCells_row _ _ _ A 33 _ hb0 (by omega) h1v];have hget1:=fun q=>splice_get A.toList vs (i*10) q (by omega);have hsz1:(A.toList.take (i*10)++vs++A.toList.drop (i*10+vs.length)).toArray.size=A.size:=by simp only [List.size_toArray,qaZ,qaN,qba,hlA];omega
  generalize (A.toList.take (i*10)++vs++A.toList.drop (i*10+vs.length)).toArray=arr1 at hget1 hsz1 ⊢;have hb1:=setRow_heap _ w.heap.size A arr1 33 (0,0) hb0;have hlb1:arr1.toList.length=arr1.size:=Array.length_toList;have hb1':((w.alloc (.cells A 33)).drew.setRow w.heap.size arr1).drew.heap[w.heap.size]?=some (.cells arr1 33 (0,0)):=hb1;rw [setCells_row _ _ _ arr1 33 _ hb1' (by omega) (fun v hv'=>h1c v (List.mem_of_mem_drop hv'))];have hget2:=fun q=>splice_get arr1.toList (cs.drop (i*10)) ((i+1)*10) q (by omega);have hsz2:(arr1.toList.take ((i+1)*10)++cs.drop (i*10)++arr1.toList.drop ((i+1)*10+(cs.drop (i*10)).length)).toArray.size=arr1.size:=by simp only [List.size_toArray,qaZ,qaN,qba,hlb1];omega
  generalize (arr1.toList.take ((i+1)*10)++cs.drop (i*10)++arr1.toList.drop ((i+1)*10+(cs.drop (i*10)).length)).toArray=arr2 at hget2 hsz2 ⊢;have hb2:=setRow_heap _ w.heap.size arr1 arr2 33 (0,0) hb1';simp only [Array.getElem?_toList] at hget1 hget2;have hfr:FrameOk (CB.at b base hi' 10).owns w (((w.alloc (.cells A 33)).drew.setRow w.heap.size arr1).drew.setRow w.heap.size arr2):=by
   have f1:FrameOk (fun p _=>p=w.heap.size) w (((w.alloc (.cells A 33)).drew.setRow w.heap.size arr1).drew.setRow w.heap.size arr2):=
    FrameOk.trans (FrameOk.alloc (S:=fun p _=>p=w.heap.size) w _) (FrameOk.trans (FrameOk.drew _ _) (FrameOk.trans (FrameOk.setRow hb0 hsz1 fun q hq=>absurd rfl hq) (FrameOk.trans (FrameOk.drew _ _) (FrameOk.setRow hb1' hsz2 fun q hq=>absurd rfl hq) (fun _ _ _ h=>h)) (fun _ _ _ h=>h)) (fun _ _ _ h=>h)) (fun _ _ _ h=>h)
   exact f1.mono fun p o hp h=>by omega
  refine post_move (c':=.at w.heap.size 0 (G*10) 10) hI hfr (fun b' o' h=>.inr (by rw [h.1];exact Nat.le_refl _)) (hflat.box hb2 (fun k v hk=>?_) ?_ (by omega)) ?_
  ·rw [Nat.zero_add,hget2];rcases ins_get hcl hvl hi hk with ⟨h1,h2⟩|⟨h1,h2,h3⟩|⟨h1,h2,h3⟩;·rw [if_pos (by omega),hget1,if_pos (by omega),<-hA,List.getElem?_toArray,qa6 (by omega),qbb,if_pos h1];exact h2
   ·rw [if_pos (by omega),hget1,if_neg (by omega),if_pos (by omega)];exact h3
   rw [if_neg (by omega),if_pos (by omega),qa8,<-h3];congr 1;omega
  ·simp only [qaZ,qaN,qba,List.length_singleton];omega
  have:=@Rep.bs K ([.at b base hi' 10]++[.at w.heap.size 0 (G*10) 10]) 1 0 (n+1) w.heap.size 0 (G*10) 10 G rfl (by omega) (by omega);simpa using this
end
end Go.Proofs.YtonnphbfclaigaaGreatDoor.Im
namespace Go.Proofs.YtonnphbfclaigaaGreatDoor
open Go.Em Go.RowKit Go.Lib
variable {P:Program}
theorem run_copy_k (w:World)(dT sT ty elem:TypeId)(k:Nat)(b o dLen dCap:Nat)(a:Addr)(sLen sCap:Nat)(cs:List Value)
  (hu:P.underlying dT=some (.slice elem)) (hs:(P.info? elem).map (·.size)=some k) (hn:cs.length=Nat.min sLen dLen*k)
  (hsrc:∀j v,cs[j]?=some v->w.cell? (a.add j)=some v) (hc:∀j,j<cs.length->(w.cell? ⟨b,o+j,none⟩).isSome=true) (hf:∀j,j<cs.length->w.frozen? ⟨b,o+j,none⟩=false) (h1:∀v∈cs,v.oneCell'=true):
  (Builtin.copy_ #[dT,sT] ty #[.slice (some ⟨b,o,none⟩) dLen dCap,.slice (some a) sLen sCap]).run P w=.ok (goInt (Nat.min sLen dLen)) (w.setCells b o cs):=by
 have hl:=run_loadCells_list (P:=P) w a cs hsrc;have hst:=run_storeCells_cells (P:=P) b o cs 0 w (by simpa using hc) (by simpa using hf) h1;cases hq:P.info? elem with
 |none=>simp [hq] at hs
 |some i=>
  have hi:i.size=k:=by simpa [hq] using hs
  simp [Builtin.copy_,run_underlying hu,Builtin.lenOf,Builtin.firstCells,sizeOf,typeInfo,hq,hi,<-hn,hl,hst]
theorem run_overlaps_own (w:World)(tS tR e:TypeId)(ht:P.underlying tS=some (.slice e))(size:Nat)(hz:∀w,(Go.sizeOf e).run P w=.ok size w)
  (a b:Addr) (la ca lb cb:Nat) (hne:a.block≠b.block) (tA tB:TypeId) (kA kB:Nat)
  (hsa:w.shape? a.block=some (tA,kA)) (hsb:w.shape? b.block=some (tB,kB)) (hkB:kB≠0) (hkA:kA≠0)
  (hfb:w.frozen? b=false) (hfe:w.frozen? {block:=b.block,off:=kB}=false):
  (Extern.SlicesOverlaps.overlaps #[tS,tS] #[tR] #[.slice (some a) la ca,.slice (some b) lb cb]).run P w=.ok (.bool false) w:=by
 have hnb:(a.block !=b.block)=true:=by simpa using hne
 have hnb':(a.block==b.block)=false:=by simpa using hne
 change Sem.run P (α:=Value) (do
  let some t:=(#[tS,tS]:Array TypeId)[0]?|stuck "slices.overlaps: no parameter types"
  let .slice elem <-underlying t|stuck "slices.overlaps: slice type expected"
  let size <-sizeOf elem
  match (some a:Option Addr),(some b:Option Addr) with
  |some a,some b=>
   if la=0\/lb=0\/size=0 then pure (Value.bool false)
   else if a.block !=b.block&&(<-frozen a)&&(<-frozen b) then unsupported .addressObserved
   else do
    if a.block !=b.block then do
     noView a;noView b
     if <-mayBeOne a b then return Value.bool ((<-choose (.extern "sameAddr.stringBytes" 2))==1)
    pure (Value.bool (a.block==b.block&&a.off<b.off+lb*size&&b.off<a.off+la*size))
  |_,_=>pure (Value.bool false)) w=_
 by_cases h0:la=0\/lb=0\/size=0;·simp [run_underlying ht,hz,h0]
 cases kB with
 |zero=>exact absurd rfl hkB
 |succ kB=>
  obtain ⟨kA,rfl⟩:∃k,kA=k+1:=⟨kA-1,by omega⟩;cases hfa:w.frozen? a with
  |true=>simp [run_underlying ht,hz,h0,hnb,hnb',frozen,noView,viewAt,mayBeOne,stringish,shape,Sem.run,hsa,hsb,hfb,hfe,hfa]
  |false=>
   cases hfx:w.frozen? {block:=a.block,off:=kA+1} with
   |true=>simp [run_underlying ht,hz,h0,hnb,hnb',frozen,noView,viewAt,mayBeOne,stringish,shape,Sem.run,hsa,hsb,hfb,hfe,hfa,hfx]
   |false=>simp [run_underlying ht,hz,h0,hnb,hnb',frozen,noView,viewAt,mayBeOne,stringish,shape,Sem.run,hsa,hsb,hfb,hfe,hfa,hfx]
theorem run_overlaps_same (w:World)(tS tR e:TypeId)(ht:P.underlying tS=some (.slice e))(size:Nat)(hz:∀w,(Go.sizeOf e).run P w=.ok size w)
  (a b:Addr) (la ca lb cb:Nat) (hsame:a.block=b.block) (hd:¬(a.off<b.off+lb*size/\b.off<a.off+la*size)):
  (Extern.SlicesOverlaps.overlaps #[tS,tS] #[tR] #[.slice (some a) la ca,.slice (some b) lb cb]).run P w=.ok (.bool false) w:=by
 have hnb:(a.block !=b.block)=false:=by simpa using hsame
 have hnb':(a.block==b.block)=true:=by simpa using hsame
 have hd':(decide (a.off<b.off+lb*size)&&decide (b.off<a.off+la*size))=false:=by
  cases h:(decide (a.off<b.off+lb*size)&&decide (b.off<a.off+la*size)) with
  |false=>rfl
  |true=>exact absurd (by simpa using h) hd
 change Sem.run P (α:=Value) (do
  let some t:=(#[tS,tS]:Array TypeId)[0]?|stuck "slices.overlaps: no parameter types"
  let .slice elem <-underlying t|stuck "slices.overlaps: slice type expected"
  let size <-sizeOf elem
  match (some a:Option Addr),(some b:Option Addr) with
  |some a,some b=>
   if la=0\/lb=0\/size=0 then pure (Value.bool false)
   else if a.block !=b.block&&(<-frozen a)&&(<-frozen b) then unsupported .addressObserved
   else do
    if a.block !=b.block then do
     noView a;noView b
     if <-mayBeOne a b then return Value.bool ((<-choose (.extern "sameAddr.stringBytes" 2))==1)
    pure (Value.bool (a.block==b.block&&a.off<b.off+lb*size&&b.off<a.off+la*size))
  |_,_=>pure (Value.bool false)) w=_
 by_cases h0:la=0\/lb=0\/size=0;·simp [run_underlying ht,hz,h0]
 simp [run_underlying ht,hz,h0,hnb,hnb',hd',frozen,Sem.run]
theorem und35:Tryz.prog.underlying 22=some (.slice 77):=by kernel_rfl
theorem info78:(Tryz.prog.info? 77).map (·.size)=some 10:=by kernel_rfl
theorem size78:∀w,(Go.sizeOf 77).run Tryz.prog w=.ok 10 w:=Tryz.sizeOf77
set_option maxHeartbeats 4000000 in
set_option maxRecDepth 100000 in
theorem ins_shift (b off n c i vb voff vc:Nat)(cs vs:List Value)(w:World)(hi:i<n)(hroom:n+1<=c)(hn3:n<=2000000)(hdis:∀j k,j<10->k<(n+1)*10->vb=b->voff+j≠off+k)
  (hcl:cs.length=n*10) (hvl:vs.length=10)
  (hcs:∀j v,cs[j]?=some v->w.cell? ⟨b,off+j,none⟩=some v) (hsp:∀j,j<(n+1)*10->(w.cell? ⟨b,off+j,none⟩).isSome=true) (hfz:∀j,j<(n+1)*10->w.frozen? ⟨b,off+j,none⟩=false)
  (hvs:∀j v,vs[j]?=some v->w.cell? ⟨vb,voff+j,none⟩=some v) (h1c:∀v∈cs,v.oneCell'=true) (h1v:∀v∈vs,v.oneCell'=true)
  (tA tB:TypeId) (kA kB:Nat) (hsa:w.shape? vb=some (tA,kA)) (hsb:w.shape? b=some (tB,kB)) (hkB:kB≠0) (hkA:kA≠0) (hfb:∀o,w.frozen? ⟨b,o,none⟩=false):
  Calls Tryz.prog 258 #[.slice (some ⟨b,off,none⟩) n c,.int .i64 i,.slice (some ⟨vb,voff,none⟩) 1 vc] w fun e w'=>
   e=.returned (.slice (some ⟨b,off,none⟩) (n+1) c)/\w'=(w.drew.setCells b (off+(i+1)*10) (cs.drop (i*10))).setCells b (off+i*10) vs:=by
 have hz2:¬((i:Int)=(n:Int)):=by omega
 have hov:∀cb,(callFunc 358 #[.slice (some ⟨vb,voff,none⟩) 1 vc,.slice (some ⟨b,off+(i+1)*10,none⟩) (n-i) cb]).run Tryz.prog w=.ok (.value (.bool false)) w:=fun cb=>by
  rw [run_callFunc_extern Tryz.func358 (by kernel_rfl) (by kernel_rfl) (by kernel_rfl) (e:=Extern.SlicesOverlaps.overlaps #[22,22] #[4]) (by kernel_rfl)];by_cases hvb:vb=b
  ·rw [run_overlaps_same w 22 4 77 und35 10 size78 ⟨vb,voff,none⟩ ⟨b,off+(i+1)*10,none⟩ 1 vc (n-i) cb hvb (fun h=>by
    obtain ⟨h1,h2⟩:=h;dsimp only at h1 h2;by_cases hlo:off+(i+1)*10<=voff;·exact hdis 0 (voff-off) (by omega) (by omega) hvb (by omega)
    exact hdis (off+(i+1)*10-voff) ((i+1)*10) (by omega) (by omega) hvb (by omega))]
   rfl
  rw [run_overlaps_own w 22 4 77 und35 10 size78 ⟨vb,voff,none⟩ ⟨b,off+(i+1)*10,none⟩ 1 vc (n-i) cb hvb tA tB kA kB hsa hsb hkB hkA (hfb _) (hfb _)];rfl
 have hdl:(cs.drop (i*10)).length=(n-i)*10:=by rw [qba,hcl];omega
 have hw1:IntKind.i64.wrap ((i:Int)+1)=(i:Int)+1:=by rw [IntKind.wrap_i64];omega
 have hb1:(0:Int)<=(i:Int)+1:=by omega
 have hin:i<=n:=by omega
 have htn:((i:Int)+1).toNat=i+1:=by omega
 have hb2:¬(c=i+1):=by omega
 have hb3:(i:Int)<=(n:Int)+1:=by omega
 have hb4:¬(c=i):=by omega
 have hcp1:∀ty dc sc,(Builtin.copy_ #[22,22] ty #[.slice (some ⟨b,off+(i+1)*10,none⟩) (n-i) dc,.slice (some ⟨b,off+i*10,none⟩) (n+1-i) sc]).run Tryz.prog w.drew=.ok (goInt (Nat.min (n+1-i) (n-i))) (w.drew.setCells b (off+(i+1)*10) (cs.drop (i*10))):=fun ty dc sc=>
  run_copy_k w.drew _ _ ty 77 10 b (off+(i+1)*10) (n-i) dc ⟨b,off+i*10,none⟩ (n+1-i) sc (cs.drop (i*10)) und35 info78 (by rw [hdl];congr 1;simp only [Nat.min_def];split<;>omega)
   (fun j v hj=>by rw [Addr.add_lit,Nat.add_assoc];exact hcs (i*10+j) v (by rwa [qa8] at hj))
   (fun j hj=>by rw [Nat.add_assoc];exact hsp _ (by omega)) (fun j hj=>by rw [Nat.add_assoc];exact hfz _ (by omega)) (fun v hv=>h1c v (List.mem_of_mem_drop hv))
 obtain ⟨W1,hW1⟩:∃W1,W1=w.drew.setCells b (off+(i+1)*10) (cs.drop (i*10)):=⟨_,rfl⟩;have hsp1:∀k,k<(n+1)*10->(W1.cell? ⟨b,off+k,none⟩).isSome=true:=fun k hk=>by rw [hW1];exact isSome_setCells b _ _ _ (fun j hj=>by rw [Nat.add_assoc];exact hsp _ (by omega)) _ (hsp k hk)
 have hcp2:∀(W:World),(∀x,W.cell? x=W1.cell? x)->(∀x,W.frozen? x=W1.frozen? x)->∀ty dc,(Builtin.copy_ #[22,22] ty #[.slice (some ⟨b,off+i*10,none⟩) (n+1-i) dc,.slice (some ⟨vb,voff,none⟩) 1 vc]).run Tryz.prog W=.ok (goInt (Nat.min 1 (n+1-i))) (W.setCells b (off+i*10) vs):=fun W hWc hWf ty dc=>
  run_copy_k W _ _ ty 77 10 b (off+i*10) (n+1-i) dc ⟨vb,voff,none⟩ 1 vc vs und35 info78 (by rw [hvl];simp only [Nat.min_def];split<;>omega)
   (fun j v hj=>by
    have hj':j<10:=by rw [<-hvl];exact (qaY.1 hj).1
    rw [Addr.add_lit,hWc,hW1,World.cell?_setCells_out b _ _ _ _ (fun h _=>by
     dsimp only at h ⊢;have h5:=hdis j (voff+j-off) hj';by_cases h6:off<=voff+j/\voff+j-off<(n+1)*10;·exact absurd (by omega) (h5 h6.2 h)
     omega)]
    exact hvs j v hj)
   (fun j hj=>by rw [hWc,Nat.add_assoc];exact hsp1 _ (by omega)) (fun j hj=>by rw [hWf,hW1,World.frozen?_setCells,Nat.add_assoc];exact hfz _ (by omega)) h1v
 rw [<-hW1] at hcp1;have mixed:Tryz.prog.follows .mixedOrders=true:=by kernel_rfl
 go_enter Tryz.func258,Tryz.ntmps258
 go_wp2_with (simp only [hov])
 go_region_law_o (refine step_copy_runI rfl _ _ 22 22 rfl _ _ (by simp [Act.eval,Act.put]) (by simp [Act.eval,Act.put]) (hcp1 _ _ _) ?_)
 go_wp2_with (at_builtin;refine wpList_copy_runI _ rfl _ _ 22 22 rfl _ _ rfl rfl (hcp2 _ (fun _=>rfl) (fun _=>rfl) _ _) ?_)
 go_ret
 first|exact ⟨rfl,rfl⟩|exact ⟨rfl,by rw [hW1]⟩
set_option maxHeartbeats 4000000 in
set_option maxRecDepth 100000 in
theorem ins_end (ob:Option Addr)(n c vb voff vc:Nat)(w w1:World)(v:Value)(hnc:n<=c)(hn3:n<=2000000)(hnil:ob=none->n=0/\c=0)
  (hrun:∀ty,(Builtin.append_ #[22,22] ty #[.slice ob n c,.slice (some ⟨vb,voff,none⟩) 1 vc]).run Tryz.prog w=.ok v w1):
  Calls Tryz.prog 258 #[.slice ob n c,.int .i64 n,.slice (some ⟨vb,voff,none⟩) 1 vc] w fun e w'=>e=.returned v/\w'=w1:=by
 have mixed:Tryz.prog.follows .mixedOrders=true:=by kernel_rfl
 go_enter Tryz.func258,Tryz.ntmps258
 cases ob with
 |none=>
  obtain ⟨rfl,rfl⟩:=hnil rfl
  go_wp2_with (at_builtin;refine Lib.wpList_append_run _ rfl _ _ _ _ rfl _ _ rfl rfl _ _ (hrun _) ?_)
  go_ret
  exact ⟨rfl,rfl⟩
 |some a=>
  obtain ⟨ab,ao,asp⟩:=a
  go_wp2_with (at_builtin;refine Lib.wpList_append_run _ rfl _ _ _ _ rfl _ _ rfl rfl _ _ (hrun _) ?_)
  all_goals (go_ret;exact ⟨rfl,rfl⟩)
def IsRow (r:Array Value)(l:List Value):Prop:=r=l.toArray
theorem info78b:(Tryz.prog.info? 77).map (fun i=>(i.zero.map (·.cells.size),i.size,i.bytes))=some (some 10,10,152):=by kernel_rfl
theorem und3:Tryz.prog.underlying 3=some (.int .i64):=by kernel_rfl
set_option maxHeartbeats 4000000 in
set_option maxRecDepth 100000 in
theorem ins_grow (b off n c i vb voff vc:Nat)(cs vs:List Value)(w:World)(hi:i<n)(hnc:n<=c)(hroom:c<n+1)(hc63:c<=4000000)
  (hcl:cs.length=n*10) (hvl:vs.length=10)
  (hcs:∀j v,cs[j]?=some v->w.cell? ⟨b,off+j,none⟩=some v)
  (hvs:∀j v,vs[j]?=some v->w.cell? ⟨vb,voff+j,none⟩=some v) (h1c:∀v∈cs,v.oneCell'=true) (h1v:∀v∈vs,v.oneCell'=true):
  Calls Tryz.prog 258 #[.slice (some ⟨b,off,none⟩) n c,.int .i64 i,.slice (some ⟨vb,voff,none⟩) 1 vc] w fun e w'=>
   ∃(G:Nat) (tl:List Value),n+1<=G/\e=.returned (.slice (some ⟨w.heap.size,0,none⟩) (n+1) G)/\tl.length=(G-i)*10/\
   w'=(((w.alloc (.cells ((cs.take (i*10))++tl).toArray 77)).drew.setCells w.heap.size (i*10) vs).drew).setCells w.heap.size ((i+1)*10) (cs.drop (i*10)):=by
 obtain ⟨i0,hi0,hz0,hzs,hzb⟩:∃i0,Tryz.prog.info? 77=some i0/\i0.zero.map (·.cells.size)=some 10/\i0.size=10/\i0.bytes=152:=by obtain ⟨i0,h1,h2⟩:=qa1.1 info78b;simp only [qaH] at h2;exact ⟨i0,h1,h2.1,h2.2.1,h2.2.2⟩
 obtain ⟨zv,hz0,hzc⟩:=qa1.1 hz0;have hz2:¬((i:Int)=(n:Int)):=by omega
 have hz3:(c:Int)<(n:Int)+1:=by omega
 have hbw:b<w.heap.size:=block_lt_of_cell (hcs 0 _ (qa3 (by omega)));have hvw:vb<w.heap.size:=block_lt_of_cell (hvs 0 _ (qa3 (by omega)));have hkk:(n:Int)+1-(i:Int)=((n+1-i:Nat):Int):=by omega
 have hik:i+(n+1-i)=n+1:=by omega
 have hold:(Builtin.firstCells i0.size i (.slice (some ⟨b,off,none⟩) i c)).run Tryz.prog w.drew=.ok (cs.take (i*10)).toArray w.drew:=by
  rw [hzs];exact run_firstCells_some w.drew 10 i ⟨b,off,none⟩ i c (cs.take (i*10)) (by rw [qaN];omega) (fun j v hj=>by
   rw [Addr.add_lit];rw [qbb] at hj;split at hj;·exact hcs j v hj
   cases hj)
 have hrz:∀ty,(Builtin.append_ #[22,3] ty #[.slice (some ⟨b,off,none⟩) i c,.int .i64 ((n:Int)+1-(i:Int))]).run Tryz.prog w=
   .ok (.slice (some ⟨w.heap.size,0,none⟩) (n+1) (grownCap w (n+1) c 77)) (w.drew.alloc (.cells ((cs.take (i*10)).toArray++Builtin.zeroCells zv.cells (n+1-i)++Builtin.zeroCells zv.cells (grownCap w (n+1) c 77-(n+1))) 77)):=fun ty=>by
  have h:=Lib.run_append_grow_zeros w 22 3 ty 77 i0 zv .i64 .i64 und35 und3 hi0 hz0 (some ⟨b,off,none⟩) i c (cs.take (i*10)) hold (n+1-i) (by omega) (by omega) (by omega) (by omega) (by rw [hzb];omega) (by rw [hzb,hik];exact growslice_fits hroom (by omega));rw [hik] at h;rw [hkk];exact h
 have hGn:n+1<=grownCap w (n+1) c 77:=grownCap_ge w _ _ _;have hG63:grownCap w (n+1) c 77<=9223372036854775807:=by have:=grownCap_le_maxLen w (n+1) c 77 (by unfold maxLen;omega);unfold maxLen at this;omega
 generalize grownCap w (n+1) c 77=G at hrz hGn hG63;have hzl:∀k,(Builtin.zeroCells zv.cells k).size=k*10:=fun k=>by simp [Builtin.zeroCells,hzc]
 obtain ⟨tl,htl⟩:∃tl:List Value,(cs.take (i*10)).toArray++Builtin.zeroCells zv.cells (n+1-i)++Builtin.zeroCells zv.cells (G-(n+1))=((cs.take (i*10))++tl).toArray/\tl.length=(G-i)*10:=by
  refine ⟨(Builtin.zeroCells zv.cells (n+1-i)).toList++(Builtin.zeroCells zv.cells (G-(n+1))).toList,?_,?_⟩;·apply Array.toList_inj.1;simp
  rw [qaZ,Array.length_toList,Array.length_toList,hzl,hzl];omega
 obtain ⟨htl,htll⟩:=htl;rw [htl] at hrz;obtain ⟨ROW,hROW⟩:∃ROW:Array Value,ROW=((cs.take (i*10))++tl).toArray:=⟨_,rfl⟩;have hRl:(n+1)*10<=ROW.size:=by rw [hROW];simp only [List.size_toArray,qaZ,qaN,htll];omega
 rw [<-hROW] at hrz;obtain ⟨W1,hW1⟩:∃W1,W1=w.drew.alloc (.cells ROW 77):=⟨_,rfl⟩;rw [<-hW1] at hrz;have hN:∀j,j<(n+1)*10->(W1.cell? ⟨w.heap.size,j,none⟩).isSome=true:=fun j hj=>by rw [hW1,World.cell?_alloc_at (w:=w.drew) ROW _ w.heap.size j rfl,qa7 (by omega)];rfl
 have hNf:∀j,W1.frozen? ⟨w.heap.size,j,none⟩=false:=fun j=>by rw [hW1];exact World.frozen?_alloc_at (w:=w.drew) ROW _ w.heap.size j rfl
 have hOb:∀j v,w.cell? ⟨b,j,none⟩=some v->W1.cell? ⟨b,j,none⟩=some v:=fun j v h=>by rw [hW1,World.cell?_alloc_past (w:=w.drew) _ b j hbw];exact h
 have hOv:∀j v,w.cell? ⟨vb,j,none⟩=some v->W1.cell? ⟨vb,j,none⟩=some v:=fun j v h=>by rw [hW1,World.cell?_alloc_past (w:=w.drew) _ vb j hvw];exact h
 have hcpA:∀(W:World),(∀x,W.cell? x=W1.cell? x)->(∀x,W.frozen? x=W1.frozen? x)->∀ty dc,(Builtin.copy_ #[22,22] ty #[.slice (some ⟨w.heap.size,i*10,none⟩) (n+1-i) dc,.slice (some ⟨vb,voff,none⟩) 1 vc]).run Tryz.prog W=.ok (goInt (Nat.min 1 (n+1-i))) (W.setCells w.heap.size (i*10) vs):=fun W hWc hWf ty dc=>
  run_copy_k W _ _ ty 77 10 w.heap.size (i*10) (n+1-i) dc ⟨vb,voff,none⟩ 1 vc vs und35 info78 (by rw [hvl];simp only [Nat.min_def];split<;>omega)
   (fun j v hj=>by rw [Addr.add_lit,hWc];exact hOv _ v (hvs j v hj))
   (fun j hj=>by rw [hWc];exact hN _ (by omega)) (fun j hj=>by rw [hWf];exact hNf _) h1v
 have hGi:¬(G=i):=by omega
 have hGim:¬(G=i+1):=by omega
 have hci:¬(c=i):=by omega
 have hbN:b≠w.heap.size:=by omega
 have hdl:(cs.drop (i*10)).length=(n-i)*10:=by rw [qba,hcl];omega
 have hcpB:∀(W:World),(∀x,W.cell? x=(W1.setCells w.heap.size (i*10) vs).cell? x)->(∀x,W.frozen? x=(W1.setCells w.heap.size (i*10) vs).frozen? x)->∀ty dc sc,(Builtin.copy_ #[22,22] ty #[.slice (some ⟨w.heap.size,(i+1)*10,none⟩) (n-i) dc,.slice (some ⟨b,off+i*10,none⟩) (n-i) sc]).run Tryz.prog W=.ok (goInt (Nat.min (n-i) (n-i))) (W.setCells w.heap.size ((i+1)*10) (cs.drop (i*10))):=fun W hWc hWf ty dc sc=>
  run_copy_k W _ _ ty 77 10 w.heap.size ((i+1)*10) (n-i) dc ⟨b,off+i*10,none⟩ (n-i) sc (cs.drop (i*10)) und35 info78 (by rw [hdl];simp)
   (fun j v hj=>by rw [Addr.add_lit,hWc,World.cell?_setCells_out _ _ _ _ _ (fun h _=>absurd h hbN),Nat.add_assoc];exact hOb _ v (hcs (i*10+j) v (by rwa [qa8] at hj)))
   (fun j hj=>by rw [hWc];exact isSome_setCells _ _ _ _ (fun t ht=>hN _ (by omega)) _ (hN _ (by omega)))
   (fun j hj=>by rw [hWf,World.frozen?_setCells];exact hNf _) (fun v hv=>h1c v (List.mem_of_mem_drop hv))
 subst hW1;have hE1:∀x,((w.alloc (.cells ROW 77)).drew).cell? x=(w.drew.alloc (.cells ROW 77)).cell? x:=fun x=>rfl;have hE2:∀x,((w.alloc (.cells ROW 77)).drew).frozen? x=(w.drew.alloc (.cells ROW 77)).frozen? x:=fun x=>rfl;have hF1:∀x,(((w.alloc (.cells ROW 77)).drew.setCells w.heap.size (i*10) vs).drew).cell? x=((w.drew.alloc (.cells ROW 77)).setCells w.heap.size (i*10) vs).cell? x:=fun x=>rfl;have hF2:∀x,(((w.alloc (.cells ROW 77)).drew.setCells w.heap.size (i*10) vs).drew).frozen? x=((w.drew.alloc (.cells ROW 77)).setCells w.heap.size (i*10) vs).frozen? x:=fun x=>rfl;have hw1:IntKind.i64.wrap ((i:Int)+1)=(i:Int)+1:=by rw [IntKind.wrap_i64];omega
 have hb1:(0:Int)<=(i:Int)+1:=by omega
 have hin:i<=n:=by omega
 have htn:((i:Int)+1).toNat=i+1:=by omega
 have hb3:(i:Int)<=(n:Int):=by omega
 have mixed:Tryz.prog.follows .mixedOrders=true:=by kernel_rfl
 have hkeep:IsRow ROW ((cs.take (i*10))++tl):=hROW;clear hkk hik hold hRl htl hROW
 go_enter Tryz.func258,Tryz.ntmps258
 go_wp2_with (first
  |(at_builtin;refine Lib.wpList_append_run _ rfl _ _ _ _ rfl _ _ rfl rfl _ _ (hrz _) ?_)
  |(at_builtin;refine wpList_copy_runI _ rfl _ _ 22 22 rfl _ _ rfl rfl (hcpA _ hE1 hE2 _ _) ?_)
  |(at_builtin;refine wpList_copy_runI _ rfl _ _ 22 22 rfl _ _ rfl rfl (hcpB _ (fun _=>rfl) (fun _=>rfl) _ _ _) ?_))
 go_region_law_o (refine step_copy_runI rfl _ _ 22 22 rfl (.slice (some ⟨w.heap.size,(i+1)*10,none⟩) (n-i) (G-(i+1))) (.slice (some ⟨b,off+i*10,none⟩) (n-i) (c-i)) (by simp [Act.eval,Act.put]) (by simp [Act.eval,Act.put]) (hcpB _ hF1 hF2 3 (G-(i+1)) (c-i)) ?_)
 go_wp2
 go_ret
 exact ⟨G,tl,hGn,rfl,htll,by unfold IsRow at hkeep;rw [<-hkeep]⟩
end Go.Proofs.YtonnphbfclaigaaGreatDoor
