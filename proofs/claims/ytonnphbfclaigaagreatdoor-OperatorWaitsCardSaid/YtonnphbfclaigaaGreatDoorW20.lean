/-.-/
import Derived.Laws.IdiomStrings
import Derived.Shelf.Slices.Clone
import Derived.Shelf.Unicode.ValidAny
import Derived.LaidMore
import Derived.LaidSub
import Derived.Test.YtonnphbfclaigaaGreatDoorRows
import Derived.Lay
import Derived.OpenShut
import Derived.SevenTiedAt
import Derived.Stop.Joined
import GoSem.ClaimGoes
import Derived.Test.YtonnphbfclaigaaGreatDoorW19
set_option linter.all false
namespace Go.Proofs.YtonnphbfclaigaaGreatDoor.If
open Go.Em Go.RowKit Go.Lib
variable {rows:qaV}{cs vs:List Value}{v:Value}
section
variable {P:Program} {R:CodeRel} {K:Kn}
theorem post_move {w w':World}{c0 c':CB}{sz:Nat}{new:qaV}{res:X}(hI:Inv P R K [c0] [.row sz rows] w)(hf:FrameOk c0.owns w w')(hown:∀b o,c'.owns b o->c0.owns b o\/w.heap.size<=b)
  (hB:BoxOk P R K ([c0]++[c']) w' (.row sz new) c') (hres:Rep K ([c0]++[c']) res v):Post P R K [c0] [.row sz rows] w res [.dead,.row sz new] (.returned v) w':=by
 have hdead:∀b o,¬Owns [c0] [Bx.dead] b o:=by
  rintro b o ⟨i,c,B,h1,h2,h3,h4⟩
  cases i with
  |zero=>simp at h2;subst h2;simp [Bx.live] at h3
  |succ i=>simp at h2
 have hin:∀b o,c0.owns b o->Owns [c0] [Bx.row sz rows] b o:=fun b o h=>⟨0,c0,.row sz rows,rfl,rfl,rfl,h⟩;have hk:=hI.kill 0;have hk':Inv P R K [c0] [.dead] w':=Inv.frame hk hf (fun b o v e ho=>by have:=hI.apart b o (hin b o ho);rw [this] at e;cases e) (fun b o ho=>absurd ho (hdead b o));refine ⟨v,K,[c'],rfl,⟨hk'.push hB (fun b o ho=>?_) (fun b o _=>hdead b o),hres,KLe.refl _,fun b o u e=>.inl e,fun b o ho=>?_,hf.mono fun b o _ h=>hin b o h,fun i B e hl=>?_⟩⟩
 ·rcases hown b o ho with h|h;·exact hI.apart b o (hin b o h)
  cases hk:K b o with
  |none=>rfl
  |some u=>have:=hI.known_lt hk;omega
 ·obtain ⟨i,c,B,h1,h2,h3,h4⟩:=ho
  match i,h1,h2 with
  |0,h1,h2=>simp at h2;subst h2;simp [Bx.live] at h3
  |1,h1,h2=>
   simp at h1;subst h1;rcases hown b o h4 with h|h;·exact .inl (hin b o h)
   exact .inr h
  |i+2,h1,h2=>simp at h2
 cases i with
 |zero=>simp at e;subst e;cases hl
 |succ i=>simp at e
theorem splice_get (l vs:List Value)(o q:Nat)(h:o+vs.length<=l.length):(l.take o++vs++l.drop (o+vs.length)).toArray[q]?=if q<o then l[q]? else if q<o+vs.length then vs[q-o]? else l[q]?:=by
 have hT:(l.take o).length=o:=by rw [qac];omega
 rw [List.getElem?_toArray];by_cases h5:q<o;·rw [if_pos h5,qau,qai (by omega),qaq,if_pos h5]
 rw [if_neg h5,qau,qan (by omega),hT];by_cases h6:q<o+vs.length;·rw [if_pos h6,qai (by omega)]
 rw [if_neg h6,qan (by omega),qak]
 congr 1;omega
theorem setCells_row (W:World)(b o:Nat)(arr:Array Value)(el:TypeId)(vs:List Value)(hb:W.heap[b]?=some (.cells arr el (0,0)))(hl:o+vs.length<=arr.size)(h1:∀v∈vs,v.oneCell'=true):
  W.setCells b o vs=W.setRow b (arr.toList.take o++vs++arr.toList.drop (o+vs.length)).toArray:=by
 have hc:∀j,j<vs.length->(W.cell? ⟨b,o+j,none⟩).isSome=true:=fun j hj=>by simp only [World.cell?,hb];rw [qao (by omega)];rfl
 have hf:∀j,j<vs.length->W.frozen? ⟨b,o+j,none⟩=false:=fun j hj=>by simp [World.frozen?,hb]
 have e1:=run_storeCells_cells (P:=Tryz.prog) b o vs 0 W (by simpa using hc) (by simpa using hf) h1;have e2:=run_storeCells_at Tryz.prog b o el vs 0 arr W hb (by omega) h1;rw [e1] at e2;simp only [Nat.add_zero] at e2;injection e2
theorem ins_flat {K:Kn}{x:List X}(hf:Flat K 7 rows cs)(hv:Flat K 7 [x] vs)(i:Nat):Flat K 7 (rows.take i++[x]++rows.drop i) (cs.take (i*7)++vs++cs.drop (i*7)):=
 ((hf.take i).append hv).append (hf.drop i)
theorem ins_get {n i k:Nat}(hcl:cs.length=n*7)(hvl:vs.length=7)(hi:i<=n)(h:(cs.take (i*7)++vs++cs.drop (i*7))[k]?=some v):
  (k<i*7/\cs[k]?=some v)\/(i*7<=k/\k<(i+1)*7/\vs[k-i*7]?=some v)\/((i+1)*7<=k/\k<(n+1)*7/\cs[k-7]?=some v):=by
 have hT:(cs.take (i*7)).length=i*7:=by rw [qac];omega
 by_cases h1:k<i*7;·rw [qau,qai (by omega),qaq,if_pos h1] at h;exact .inl ⟨h1,h⟩
 rw [qau,qan (by omega),hT] at h;by_cases h2:k<(i+1)*7;·rw [qai (by omega)] at h;exact .inr (.inl ⟨by omega,h2,h⟩)
 rw [qan (by omega),qak] at h;have e:i*7+(k-i*7-vs.length)=k-7:=by omega
 rw [e] at h;have:=(qah.1 h).1;exact .inr (.inr ⟨by omega,by omega,h⟩)
set_option maxRecDepth 100000 in
theorem ins_sem {R:CodeRel}(n i:Nat)(t:Bool)(x:List X)(rows:qaV)(hi:i<=n)(hn:n=rows.length)(hn2:n<=2000000):
  FSem Tryz.prog R 406 [.bs 0 0 n,.v (.int .i64 (Int.ofNat i)),.sl t 7 [x]] [.row 7 rows] (.bs 1 0 (n+1)) [.dead,.row 7 (rows.take i++[x]++rows.drop i)]:=by
 intro K C w cargs hI ha;have hs:cargs.size=3:=ha.1;have r0:=ha.2 0 _ cargs[0] rfl (qao (by omega));have r1:=ha.2 1 _ cargs[1] rfl (qao (by omega));have r2:=ha.2 2 _ cargs[2] rfl (qao (by omega));have hca:cargs=#[cargs[0],cargs[1],cargs[2]]:=by
  refine Array.ext (by simp [hs]) fun j h1 h2=>?_
  match j,h1,h2 with
  |0,_,_=>rfl
  |1,_,_=>rfl
  |2,_,_=>rfl
  |j+3,h1,_=>omega
 rw [hca];generalize cargs[0]=v0 at r0;generalize cargs[1]=v1 at r1;generalize cargs[2]=v2 at r2;obtain rfl:=rep_v r1;obtain ⟨c0,hC⟩:∃c0,C=[c0]:=by
  have:=hI.size
  match C,this with
  |[c0],_=>exact ⟨c0,rfl⟩
 subst hC;obtain ⟨vb,vo,c2,rfl⟩:∃vb vo c2,v2=.slice (some ⟨vb,vo,none⟩) 1 c2:=by
  generalize hx:X.sl t 7 [x]=y at r2;cases r2<;>try cases hx
  exact ⟨_,_,_,rfl⟩
 obtain ⟨vs,hv,hvK⟩:=r2.flat;have hvl:vs.length=7:=by simpa using hv.len
 have hvs:∀j v,vs[j]?=some v->w.cell? ⟨vb,vo+j,none⟩=some v:=fun j v h=>hI.known _ _ _ (hvK j v h);have h1v:=hv.oneCell;obtain ⟨tA,kA,hsa,hkA⟩:∃tA kA,w.shape? vb=some (tA,kA)/\kA≠0:=by
  have h0:=hvs 0 _ (qad (by omega));unfold World.cell? at h0;split at h0;next arr el fr hh=>refine ⟨el,arr.size,by simp [World.shape?,hh],fun e=>?_⟩;have:=(qaM.1 h0).1;omega
  cases h0
 have hvfc:∀w':World,w'.heap=w.heap->(Builtin.firstCells 7 1 (.slice (some ⟨vb,vo,none⟩) 1 c2)).run Tryz.prog w'=.ok vs.toArray w':=fun w' hw=>by refine run_firstCells_some w' 7 1 ⟨vb,vo,none⟩ 1 c2 vs (by omega) (fun j u hu=>?_);rw [Addr.add_lit];have:=hvs j u hu;simp only [World.cell?,hw] at this ⊢;exact this
 have hz78:(zeroP Tryz.prog 136).isSome=true:=by kernel_rfl
 obtain ⟨z78,hz78⟩:=Option.isSome_iff_exists.1 hz78;have hs78:sizeP Tryz.prog 136=some 7:=by kernel_rfl
 have hb78:bytesP Tryz.prog 136=some 104:=by kernel_rfl
 have endGrow:∀(ob:Option Addr) (c:Nat) (olds:List Value),i=n->n<=c->c<n+1->(ob=none->n=0/\c=0)->Flat K 7 rows olds->(∀w':World,w'.heap=w.heap->(Builtin.firstCells 7 n (.slice ob n c)).run Tryz.prog w'=.ok olds.toArray w')->
   Calls Tryz.prog 406 #[.slice ob n c,.int .i64 (Int.ofNat i),.slice (some ⟨vb,vo,none⟩) 1 c2] w (Post Tryz.prog R K [c0] [.row 7 rows] w (.bs 1 0 (n+1)) [.dead,.row 7 (rows.take i++[x]++rows.drop i)]):=by
  intro ob c olds hin hnc hcn hnil hfo hfco;subst hin;have hex:∃rest:List Value,(∀ty,(Builtin.append_ #[29,29] ty #[.slice ob i c,.slice (some ⟨vb,vo,none⟩) 1 c2]).run Tryz.prog w=.ok (.slice (some ⟨w.heap.size,0,none⟩) (i+1) (grownCap w (i+1) c 136)) (w.drew.alloc (.cells (olds++vs++rest).toArray 136)))/\rest.length=(grownCap w (i+1) c 136-(i+1))*7:=by obtain ⟨rest,h1,h2⟩:=run_app_grow (P:=Tryz.prog) (w:=w) (ty:=0) (ob:=ob) (oc:=some ⟨vb,vo,none⟩) (n:=i) (cap:=c) (m:=1) (c:=c2) und35 und35 hs78 hb78 hz78 olds vs hfco hvfc hcn (by omega) (by omega) (by omega);exact ⟨rest,fun ty=>h1,h2⟩
  obtain ⟨rest,hrun,hrl⟩:=hex;have hm:=grownCap_ge w (i+1) c 136;generalize grownCap w (i+1) c 136=m at hrun hrl hm;refine (ins_end ob i c vb vo c2 w _ _ hnc hn2 hnil hrun).mono ?_
  rintro e w' ⟨rfl,rfl⟩
  have hfl:=hfo.append hv;have e1:rows.take i++[x]++rows.drop i=rows++[x]:=by rw [hn,List.take_length,List.drop_length,List.append_nil]
  rw [e1];have hol:olds.length=i*7:=by rw [hfo.len,<-hn]
  have hsz:(olds++vs++rest).toArray.size=m*7:=by simp only [List.size_toArray,qae,hol,hvl,hrl];omega
  refine post_move (c':=.at w.heap.size 0 (m*7) 7) hI (FrameOk.trans (FrameOk.drew _ w) (FrameOk.alloc (S:=c0.owns) _ _) (fun _ _ _ h=>h)) (fun b o h=>.inr (by rw [h.1];exact Nat.le_refl _)) (hfl.box (alloc_get w.drew _) (fun k v hk=>?_) (by simp only [qae,List.length_singleton];omega) (by omega)) ?_;·rw [Nat.zero_add,List.getElem?_toArray,qai (qah.1 hk).1];exact hk
  have:=@Rep.bs K ([c0]++[.at w.heap.size 0 (m*7) 7]) 1 0 (i+1) w.heap.size 0 (m*7) 7 m rfl (by omega) (by omega);simpa using this
 generalize hx0:X.bs 0 0 n=y0 at r0;cases r0<;>try cases hx0
 case bsNil ob hc=>
  have e0:c0=.ghost:=by simpa using hc
  subst e0;have hi0:i=0:=by omega
  have hr0:rows=[]:=qaJ hn.symm;refine endGrow ob 0 [] hi0 (Nat.le_refl _) (by omega) (fun _=>⟨rfl,rfl⟩) (by rw [hr0];exact Flat.nil) (fun w' _=>?_);cases ob<;>simp [Builtin.firstCells,loadCells,loadCellsFrom]
 case bs b base hi' sz cap hc hcap hlen=>
  have e0:c0=.at b base hi' sz:=by simpa using hc
  subst e0;obtain ⟨arr,el,g1,g2,g3,hbl,hfe⟩:=(hI.box 0 _ _ rfl rfl).flat;subst g1;simp only [Nat.zero_mul,Nat.zero_add,Nat.add_zero] at hcap ⊢;generalize hcd:(arr.toList.drop base).take (rows.length*7)=cs at hfe;have hcl:cs.length=n*7:=by rw [hfe.len,<-hn]
  have hcar:∀j v,cs[j]?=some v->arr[base+j]?=some v:=fun j v h=>by
   rw [<-hcd,qaq] at h;split at h;·rw [qak] at h;simpa using h
   cases h
  have hcs:∀j v,cs[j]?=some v->w.cell? ⟨b,base+j,none⟩=some v:=fun j v h=>by simp only [World.cell?,hbl];exact hcar j v h
  have h1c:=hfe.oneCell;have hnk:∀o,base<=o->o<hi'->K b o=none:=fun o h1 h2=>hI.apart b o ⟨0,_,_,rfl,rfl,rfl,⟨rfl,h1,h2⟩⟩;have hfz:∀o,w.frozen? ⟨b,o,none⟩=false:=fun o=>by simp [World.frozen?,hbl]
  have hflat:=ins_flat hfe hv i;by_cases hin:i=n
  ·by_cases hfit:n+1<=cap
   ·subst hin;have hst:=run_storeCells_at Tryz.prog b (base+i*7) el vs 0 arr w hbl (by omega) h1v;simp only [Nat.add_zero] at hst;have hrun:∀ty,(Builtin.append_ #[29,29] ty #[.slice (some ⟨b,base,none⟩) i cap,.slice (some ⟨vb,vo,none⟩) 1 c2]).run Tryz.prog w=.ok (.slice (some ⟨b,base,none⟩) (i+1) cap) (w.setRow b (arr.toList.take (base+i*7)++vs++arr.toList.drop (base+i*7+vs.length)).toArray):=fun ty=>run_app_fit (P:=Tryz.prog) (ty:=ty) (ob:=some ⟨b,base,none⟩) und35 und35 hs78 vs _ (hvfc w rfl) hfit (fun ad e=>by cases e;rw [Addr.add_lit];exact hst) (fun e=>by cases e);refine (ins_end _ i cap vb vo c2 w _ _ (by omega) hn2 (fun e=>by cases e) hrun).mono ?_
    rintro e w' ⟨rfl,rfl⟩
    have hget:∀q,(arr.toList.take (base+i*7)++vs++arr.toList.drop (base+i*7+vs.length)).toArray[q]?=if q<base+i*7 then arr[q]? else if q<base+i*7+vs.length then vs[q-(base+i*7)]? else arr[q]?:=fun q=>by rw [splice_get _ _ _ _ (by have:arr.toList.length=arr.size:=Array.length_toList;omega)];simp
    have hsize:(arr.toList.take (base+i*7)++vs++arr.toList.drop (base+i*7+vs.length)).toArray.size=arr.size:=by simp;omega
    generalize (arr.toList.take (base+i*7)++vs++arr.toList.drop (base+i*7+vs.length)).toArray=arr' at hget hsize;refine post_move (c':=.at b base hi' 7) hI (FrameOk.setRow hbl hsize fun q hq=>?_) (fun b' o' h=>.inl h) (hflat.box (setRow_heap w b arr arr' el _ hbl) (fun k v hk=>?_) (by rw [hflat.len.symm.trans (by simp;omega:_=(i+1)*7)];omega) (by omega)) ?_
    ·rw [hget];have hout:¬(base<=q/\q<hi'):=fun hh=>hq ⟨rfl,hh.1,hh.2⟩;by_cases h5:q<base+i*7;·rw [if_pos h5]
     rw [if_neg h5,if_neg (by omega)]
    ·rw [hget];rcases ins_get hcl hvl (Nat.le_refl _) hk with ⟨h1,h2⟩|⟨h1,h2,h3⟩|⟨h1,h2,h3⟩;·rw [if_pos (by omega)];exact hcar k v h2
     ·rw [if_neg (by omega),if_pos (by omega),<-h3];congr 1;omega
     omega
    have:=@Rep.bs K ([.at b base hi' 7]++[.at b base hi' 7]) 1 0 (i+1) b base hi' 7 cap rfl (by omega) hfit;simpa using this
   refine endGrow (some ⟨b,base,none⟩) cap cs hin (by omega) (by omega) (fun e=>by cases e) hfe (fun w' hw=>?_);refine run_firstCells_some w' 7 n ⟨b,base,none⟩ n cap cs (by omega) (fun j u hu=>?_);rw [Addr.add_lit];have:=hcs j u hu;simp only [World.cell?,hw] at this ⊢;exact this
  have hil:i<n:=by omega
  by_cases hfit:n+1<=cap
  ·have hlb:arr.toList.length=arr.size:=Array.length_toList;have hsh:w.shape? b=some (el,arr.size):=by simp [World.shape?,hbl]
   refine (ins_shift b base n cap i vb vo c2 cs vs w hil hfit hn2 (fun j k hj hk e hne=>?_) hcl hvl hcs (fun j hj=>?_) (fun j _=>hfz _) hvs h1c h1v tA el kA arr.size hsa hsh (by omega) hkA hfz).mono ?_;·have hk1:=hvK j _ (qad (by omega));rw [e,hne,hnk _ (by omega) (by omega)] at hk1;cases hk1
   ·simp only [World.cell?,hbl];rw [qao (by omega)];rfl
   rintro e w' ⟨rfl,rfl⟩
   have hdl:(cs.drop (i*7)).length=(n-i)*7:=by rw [qaj,hcl];omega
   have hbl2:w.drew.heap[b]?=some (.cells arr el (0,0)):=hbl;rw [setCells_row w.drew b _ arr el _ hbl2 (by omega) (fun v hv'=>h1c v (List.mem_of_mem_drop hv'))];have hget1:=fun q=>splice_get arr.toList (cs.drop (i*7)) (base+(i+1)*7) q (by omega);have hsz1:(arr.toList.take (base+(i+1)*7)++cs.drop (i*7)++arr.toList.drop (base+(i+1)*7+(cs.drop (i*7)).length)).toArray.size=arr.size:=by simp only [List.size_toArray,qae,qac,qaj,hlb];omega
   generalize (arr.toList.take (base+(i+1)*7)++cs.drop (i*7)++arr.toList.drop (base+(i+1)*7+(cs.drop (i*7)).length)).toArray=arr1 at hget1 hsz1 ⊢;have hb1:=setRow_heap w.drew b arr arr1 el (0,0) hbl2;have hlb1:arr1.toList.length=arr1.size:=Array.length_toList;rw [setCells_row _ b _ arr1 el _ hb1 (by omega) h1v];have hget2:=fun q=>splice_get arr1.toList vs (base+i*7) q (by omega);have hsz2:(arr1.toList.take (base+i*7)++vs++arr1.toList.drop (base+i*7+vs.length)).toArray.size=arr1.size:=by simp only [List.size_toArray,qae,qac,qaj,hlb1];omega
   generalize (arr1.toList.take (base+i*7)++vs++arr1.toList.drop (base+i*7+vs.length)).toArray=arr2 at hget2 hsz2 ⊢;have hb2:=setRow_heap _ b arr1 arr2 el (0,0) hb1;simp only [Array.getElem?_toList] at hget1 hget2;refine post_move (c':=.at b base hi' 7) hI (FrameOk.trans (FrameOk.drew _ w) (FrameOk.trans (FrameOk.setRow hbl2 hsz1 fun q hq=>?_) (FrameOk.setRow (S:=(CB.at b base hi' 7).owns) hb1 hsz2 fun q hq=>?_) (fun _ _ _ h=>h)) (fun _ _ _ h=>h)) (fun b' o' h=>.inl h) (hflat.box hb2 (fun k v hk=>?_) ?_ (by omega)) ?_
   ·rw [hget1];have hout:¬(base<=q/\q<hi'):=fun hh=>hq ⟨rfl,hh.1,hh.2⟩;by_cases h5:q<base+(i+1)*7;·rw [if_pos h5]
    rw [if_neg h5,if_neg (by omega)]
   ·rw [hget2];have hout:¬(base<=q/\q<hi'):=fun hh=>hq ⟨rfl,hh.1,hh.2⟩;by_cases h5:q<base+i*7;·rw [if_pos h5]
    rw [if_neg h5,if_neg (by omega)]
   ·rw [hget2];rcases ins_get hcl hvl hi hk with ⟨h1,h2⟩|⟨h1,h2,h3⟩|⟨h1,h2,h3⟩;·rw [if_pos (by omega),hget1,if_pos (by omega)];exact hcar k v h2
    ·rw [if_neg (by omega),if_pos (by omega),<-h3];congr 1;omega
    rw [if_neg (by omega),if_neg (by omega),hget1,if_neg (by omega),if_pos (by omega),qak,<-h3];congr 1;omega
   ·have:=hflat.len;simp only [qae,qac,qaj,List.length_singleton];omega
   have:=@Rep.bs K ([.at b base hi' 7]++[.at b base hi' 7]) 1 0 (n+1) b base hi' 7 cap rfl (by omega) hfit;simpa using this
  refine (ins_grow b base n cap i vb vo c2 cs vs w hil (by omega) (by omega) (by omega) hcl hvl hcs hvs h1c h1v).mono ?_
  rintro e w' ⟨G,tl,hG,rfl,htl,rfl⟩
  have hdl:(cs.drop (i*7)).length=(n-i)*7:=by rw [qaj,hcl];omega
  have hTl:(cs.take (i*7)).length=i*7:=by rw [qac];omega
  generalize hA:(cs.take (i*7)++tl).toArray=A;have hAs:A.size=G*7:=by rw [<-hA,List.size_toArray,qae,hTl,htl];omega
  have hlA:A.toList.length=A.size:=Array.length_toList;have hb0:(w.alloc (.cells A 136)).drew.heap[w.heap.size]?=some (.cells A 136 (0,0)):=alloc_get w _;rw [setCells_row _ _ _ A 136 _ hb0 (by omega) h1v];have hget1:=fun q=>splice_get A.toList vs (i*7) q (by omega);have hsz1:(A.toList.take (i*7)++vs++A.toList.drop (i*7+vs.length)).toArray.size=A.size:=by simp only [List.size_toArray,qae,qac,qaj,hlA];omega
  generalize (A.toList.take (i*7)++vs++A.toList.drop (i*7+vs.length)).toArray=arr1 at hget1 hsz1 ⊢;have hb1:=setRow_heap _ w.heap.size A arr1 136 (0,0) hb0;have hlb1:arr1.toList.length=arr1.size:=Array.length_toList;have hb1':((w.alloc (.cells A 136)).drew.setRow w.heap.size arr1).drew.heap[w.heap.size]?=some (.cells arr1 136 (0,0)):=hb1;rw [setCells_row _ _ _ arr1 136 _ hb1' (by omega) (fun v hv'=>h1c v (List.mem_of_mem_drop hv'))];have hget2:=fun q=>splice_get arr1.toList (cs.drop (i*7)) ((i+1)*7) q (by omega);have hsz2:(arr1.toList.take ((i+1)*7)++cs.drop (i*7)++arr1.toList.drop ((i+1)*7+(cs.drop (i*7)).length)).toArray.size=arr1.size:=by simp only [List.size_toArray,qae,qac,qaj,hlb1];omega
  generalize (arr1.toList.take ((i+1)*7)++cs.drop (i*7)++arr1.toList.drop ((i+1)*7+(cs.drop (i*7)).length)).toArray=arr2 at hget2 hsz2 ⊢;have hb2:=setRow_heap _ w.heap.size arr1 arr2 136 (0,0) hb1';simp only [Array.getElem?_toList] at hget1 hget2;have hfr:FrameOk (CB.at b base hi' 7).owns w (((w.alloc (.cells A 136)).drew.setRow w.heap.size arr1).drew.setRow w.heap.size arr2):=by
   have f1:FrameOk (fun p _=>p=w.heap.size) w (((w.alloc (.cells A 136)).drew.setRow w.heap.size arr1).drew.setRow w.heap.size arr2):=
    FrameOk.trans (FrameOk.alloc (S:=fun p _=>p=w.heap.size) w _) (FrameOk.trans (FrameOk.drew _ _) (FrameOk.trans (FrameOk.setRow hb0 hsz1 fun q hq=>absurd rfl hq) (FrameOk.trans (FrameOk.drew _ _) (FrameOk.setRow hb1' hsz2 fun q hq=>absurd rfl hq) (fun _ _ _ h=>h)) (fun _ _ _ h=>h)) (fun _ _ _ h=>h)) (fun _ _ _ h=>h)
   exact f1.mono fun p o hp h=>by omega
  refine post_move (c':=.at w.heap.size 0 (G*7) 7) hI hfr (fun b' o' h=>.inr (by rw [h.1];exact Nat.le_refl _)) (hflat.box hb2 (fun k v hk=>?_) ?_ (by omega)) ?_
  ·rw [Nat.zero_add,hget2];rcases ins_get hcl hvl hi hk with ⟨h1,h2⟩|⟨h1,h2,h3⟩|⟨h1,h2,h3⟩;·rw [if_pos (by omega),hget1,if_pos (by omega),<-hA,List.getElem?_toArray,qai (by omega),qaq,if_pos h1];exact h2
   ·rw [if_pos (by omega),hget1,if_neg (by omega),if_pos (by omega)];exact h3
   rw [if_neg (by omega),if_pos (by omega),qak,<-h3];congr 1;omega
  ·simp only [qae,qac,qaj,List.length_singleton];omega
  have:=@Rep.bs K ([.at b base hi' 7]++[.at w.heap.size 0 (G*7) 7]) 1 0 (n+1) w.heap.size 0 (G*7) 7 G rfl (by omega) (by omega);simpa using this
end
end Go.Proofs.YtonnphbfclaigaaGreatDoor.If
namespace Go.Proofs.YtonnphbfclaigaaGreatDoor
open Go.Em Go.RowKit Go.Lib
theorem tabOk0:TabOk Tryz.prog gl tab:=by
 intro f fd h;unfold tab at h;split at h;·exact ⟨_,h⟩
 cases h
def ext0:Ext:=fun _=>none
theorem machine0 (n:Nat):GamOk Tryz.prog (RCode Tryz.prog gl) (callF tab ext0 n):=callF_ok tabOk0 (fun _ _ h=>by cases h) n
theorem roomC {n b:Nat}(h:n<=1000000)(hb:b<=1000):roomOk n b=true:=by have:n*b<=1000000*1000:=Nat.mul_le_mul h hb;simp only [roomOk,qag,qaD];omega
section
theorem clI555:(Tryz.prog.info? 9).map (fun i=>(i.zero.map (·.cells.size),i.size,i.bytes))=some (some 1,1,16):=by kernel_rfl
theorem clU555:Tryz.prog.underlying 48=some (.slice 9):=by kernel_rfl
set_option maxHeartbeats 1000000 in
theorem clN555 (n c:Nat)(w:World):Calls Tryz.prog 555 #[.slice none n c] w fun e w'=>e=.returned (.slice none 0 0)/\w'=w:=by
 have mixed:Tryz.prog.follows .mixedOrders=true:=by kernel_rfl
 have q:∀(w:World) (a:Option Addr) (n c n' c':Nat),(binOp .eql 48 (.slice a n c) (.slice none n' c')).run Tryz.prog w=.ok (.bool a.isNone) w:=fun w a n c n' c'=>Lib.run_eql_slice_nil w _ _ a n c n' c' clU555
 go_enter Tryz.func555,Tryz.ntmps555
 go_wp2
 go_ret
 exact ⟨rfl,rfl⟩
set_option maxHeartbeats 2000000 in
set_option maxRecDepth 100000 in
theorem clZ555 (a:Addr)(c:Nat)(w:World):Calls Tryz.prog 555 #[.slice (some a) 0 c] w fun e w'=>∃v',e=.returned v'/\w'.ownsRow w.heap.size 9 1 v' 0 []/\Below w.heap.size w w':=by
 have mixed:Tryz.prog.follows .mixedOrders=true:=by kernel_rfl
 obtain ⟨i0,hi,hzz⟩:=qaf.1 clI555;simp only [qab] at hzz;obtain ⟨hz0,hz1,hz2⟩:=hzz;obtain ⟨z,hz,hzs⟩:=qaf.1 hz0;have q:∀(w:World) (a:Option Addr) (n c n' c':Nat),(binOp .eql 48 (.slice a n c) (.slice none n' c')).run Tryz.prog w=.ok (.bool a.isNone) w:=fun w a n c n' c'=>Lib.run_eql_slice_nil w _ _ a n c n' c' clU555;have u:∀w,Sem.run Tryz.prog (underlying 48) w=.ok (TypeDesc.slice 9) w:=run_underlying clU555
 go_enter Tryz.func555,Tryz.ntmps555
 go_wp2_with (at_builtin;refine wpList_append_own _ rfl _ _ 48 rfl w.heap.size 9 i0 z 1 16 clU555 hi hz hz1 hz2 hzs (by decide) _ _ _ rfl (World.ownsRow_made w #[] 0 (Nat.le_refl _) (Nat.zero_le _) rfl) a 0 c [] rfl rfl (by intro j u hj;simp at hj) (by intro u hu;cases hu) (by unfold maxLen;omega) (by omega) (by simp) ?_)
 intro v' w1 hown hgrow hnil
 go_wp2
 go_ret
 refine ⟨v',rfl,by simpa using hown,?_⟩;exact ((Below.refl _ w).alloc (Nat.le_refl _) _).grown hgrow (by simp) (by intro k hk;simp [Value.ownBlock] at hk;omega)
theorem clM555 (e:List X)(r:qaV)(t:Bool)(N:Nat)(h:(e::r).length<=1000000):callF tab ext0 (N+1) (.fn 555) [.sl t 1 (e::r)] []=some (.bs 0 0 (e::r).length,[.row 1 (e::r)]):=by have:=callF_of (T:=tab) (ext:=ext0) (N:=N) (f:=555) (args:=[.sl t 1 (e::r)]) (inb:=[]) (r:=some (.bs 0 0 (0+(e::r).length),[.row 1 ([]++(e::r))])) [(7,.fresh)] [] (pf1 (a:=(e::r).isEmpty=false/\roomOk (0+(e::r).length) 16=true) ⟨rfl,by rw [Nat.zero_add];exact roomC h (by decide)⟩) (by kernel_rfl);rw [Nat.zero_add,qaK] at this;exact this
theorem cl_sem555 (t:Bool)(es:qaV)(h:es.length<=1000000):FSem Tryz.prog (RCode Tryz.prog gl) 555 [.sl t 1 es] [] (.bs 0 0 es.length) [.row 1 es]:=by
 cases es with
 |cons e r=>exact ((machine0 1).fn _ _ _ _ _ (clM555 e r t 0 h)).2
 |nil=>
  intro K C w cargs hI ha;have hs:cargs.size=1:=ha.1;have r0:=ha.2 0 _ cargs[0] rfl (qao (by omega));have hca:cargs=#[cargs[0]]:=by
   refine Array.ext (by simp [hs]) fun i h1 h2=>?_
   match i,h1,h2 with
   |0,_,_=>rfl
   |i+1,h1,_=>omega
  rw [hca];generalize cargs[0]=v at r0;have key:Calls Tryz.prog 555 #[v] w fun e w'=>∃v',e=.returned v'/\w'.ownsRow w.heap.size 9 1 v' 0 []/\Below w.heap.size w w':=by
   generalize hx:X.sl t 1 []=x at r0;cases r0<;>try cases hx
   case slNil ob=>
    cases ob with
    |none=>
     refine (clN555 0 0 w).mono ?_
     rintro e w' ⟨rfl,rfl⟩
     exact ⟨_,rfl,World.ownsRow_nil _ _ _ _,Below.refl _ _⟩
    |some a=>exact clZ555 a 0 w
   case sl=>exact clZ555 _ _ w
  exact fsem_none (inb:=[]) (args:=[]) hI key
end
section
theorem clI276:(Tryz.prog.info? 33).map (fun i=>(i.zero.map (·.cells.size),i.size,i.bytes))=some (some 10,10,152):=by kernel_rfl
theorem clU276:Tryz.prog.underlying 39=some (.slice 33):=by kernel_rfl
set_option maxHeartbeats 1000000 in
theorem clN276 (n c:Nat)(w:World):Calls Tryz.prog 276 #[.slice none n c] w fun e w'=>e=.returned (.slice none 0 0)/\w'=w:=by
 have mixed:Tryz.prog.follows .mixedOrders=true:=by kernel_rfl
 have q:∀(w:World) (a:Option Addr) (n c n' c':Nat),(binOp .eql 39 (.slice a n c) (.slice none n' c')).run Tryz.prog w=.ok (.bool a.isNone) w:=fun w a n c n' c'=>Lib.run_eql_slice_nil w _ _ a n c n' c' clU276
 go_enter Tryz.func276,Tryz.ntmps276
 go_wp2
 go_ret
 exact ⟨rfl,rfl⟩
set_option maxHeartbeats 2000000 in
set_option maxRecDepth 100000 in
theorem clZ276 (a:Addr)(c:Nat)(w:World):Calls Tryz.prog 276 #[.slice (some a) 0 c] w fun e w'=>∃v',e=.returned v'/\w'.ownsRow w.heap.size 33 10 v' 0 []/\Below w.heap.size w w':=by
 have mixed:Tryz.prog.follows .mixedOrders=true:=by kernel_rfl
 obtain ⟨i0,hi,hzz⟩:=qaf.1 clI276;simp only [qab] at hzz;obtain ⟨hz0,hz1,hz2⟩:=hzz;obtain ⟨z,hz,hzs⟩:=qaf.1 hz0;have q:∀(w:World) (a:Option Addr) (n c n' c':Nat),(binOp .eql 39 (.slice a n c) (.slice none n' c')).run Tryz.prog w=.ok (.bool a.isNone) w:=fun w a n c n' c'=>Lib.run_eql_slice_nil w _ _ a n c n' c' clU276;have u:∀w,Sem.run Tryz.prog (underlying 39) w=.ok (TypeDesc.slice 33) w:=run_underlying clU276
 go_enter Tryz.func276,Tryz.ntmps276
 go_wp2_with (at_builtin;refine wpList_append_own _ rfl _ _ 39 rfl w.heap.size 33 i0 z 10 152 clU276 hi hz hz1 hz2 hzs (by decide) _ _ _ rfl (World.ownsRow_made w #[] 0 (Nat.le_refl _) (Nat.zero_le _) rfl) a 0 c [] rfl rfl (by intro j u hj;simp at hj) (by intro u hu;cases hu) (by unfold maxLen;omega) (by omega) (by simp) ?_)
 intro v' w1 hown hgrow hnil
 go_wp2
 go_ret
 refine ⟨v',rfl,by simpa using hown,?_⟩;exact ((Below.refl _ w).alloc (Nat.le_refl _) _).grown hgrow (by simp) (by intro k hk;simp [Value.ownBlock] at hk;omega)
theorem clM276 (e:List X)(r:qaV)(t:Bool)(N:Nat)(h:(e::r).length<=1000000):callF tab ext0 (N+1) (.fn 276) [.sl t 10 (e::r)] []=some (.bs 0 0 (e::r).length,[.row 10 (e::r)]):=by have:=callF_of (T:=tab) (ext:=ext0) (N:=N) (f:=276) (args:=[.sl t 10 (e::r)]) (inb:=[]) (r:=some (.bs 0 0 (0+(e::r).length),[.row 10 ([]++(e::r))])) [(7,.fresh)] [] (pf1 (a:=(e::r).isEmpty=false/\roomOk (0+(e::r).length) 152=true) ⟨rfl,by rw [Nat.zero_add];exact roomC h (by decide)⟩) (by kernel_rfl);rw [Nat.zero_add,qaK] at this;exact this
theorem cl_sem276 (t:Bool)(es:qaV)(h:es.length<=1000000):FSem Tryz.prog (RCode Tryz.prog gl) 276 [.sl t 10 es] [] (.bs 0 0 es.length) [.row 10 es]:=by
 cases es with
 |cons e r=>exact ((machine0 1).fn _ _ _ _ _ (clM276 e r t 0 h)).2
 |nil=>
  intro K C w cargs hI ha;have hs:cargs.size=1:=ha.1;have r0:=ha.2 0 _ cargs[0] rfl (qao (by omega));have hca:cargs=#[cargs[0]]:=by
   refine Array.ext (by simp [hs]) fun i h1 h2=>?_
   match i,h1,h2 with
   |0,_,_=>rfl
   |i+1,h1,_=>omega
  rw [hca];generalize cargs[0]=v at r0;have key:Calls Tryz.prog 276 #[v] w fun e w'=>∃v',e=.returned v'/\w'.ownsRow w.heap.size 33 10 v' 0 []/\Below w.heap.size w w':=by
   generalize hx:X.sl t 10 []=x at r0;cases r0<;>try cases hx
   case slNil ob=>
    cases ob with
    |none=>
     refine (clN276 0 0 w).mono ?_
     rintro e w' ⟨rfl,rfl⟩
     exact ⟨_,rfl,World.ownsRow_nil _ _ _ _,Below.refl _ _⟩
    |some a=>exact clZ276 a 0 w
   case sl=>exact clZ276 _ _ w
  exact fsem_none (inb:=[]) (args:=[]) hI key
end
section
theorem clI277:(Tryz.prog.info? 31).map (fun i=>(i.zero.map (·.cells.size),i.size,i.bytes))=some (some 6,6,88):=by kernel_rfl
theorem clU277:Tryz.prog.underlying 28=some (.slice 31):=by kernel_rfl
set_option maxHeartbeats 1000000 in
theorem clN277 (n c:Nat)(w:World):Calls Tryz.prog 277 #[.slice none n c] w fun e w'=>e=.returned (.slice none 0 0)/\w'=w:=by
 have mixed:Tryz.prog.follows .mixedOrders=true:=by kernel_rfl
 have q:∀(w:World) (a:Option Addr) (n c n' c':Nat),(binOp .eql 28 (.slice a n c) (.slice none n' c')).run Tryz.prog w=.ok (.bool a.isNone) w:=fun w a n c n' c'=>Lib.run_eql_slice_nil w _ _ a n c n' c' clU277
 go_enter Tryz.func277,Tryz.ntmps277
 go_wp2
 go_ret
 exact ⟨rfl,rfl⟩
set_option maxHeartbeats 2000000 in
set_option maxRecDepth 100000 in
theorem clZ277 (a:Addr)(c:Nat)(w:World):Calls Tryz.prog 277 #[.slice (some a) 0 c] w fun e w'=>∃v',e=.returned v'/\w'.ownsRow w.heap.size 31 6 v' 0 []/\Below w.heap.size w w':=by
 have mixed:Tryz.prog.follows .mixedOrders=true:=by kernel_rfl
 obtain ⟨i0,hi,hzz⟩:=qaf.1 clI277;simp only [qab] at hzz;obtain ⟨hz0,hz1,hz2⟩:=hzz;obtain ⟨z,hz,hzs⟩:=qaf.1 hz0;have q:∀(w:World) (a:Option Addr) (n c n' c':Nat),(binOp .eql 28 (.slice a n c) (.slice none n' c')).run Tryz.prog w=.ok (.bool a.isNone) w:=fun w a n c n' c'=>Lib.run_eql_slice_nil w _ _ a n c n' c' clU277;have u:∀w,Sem.run Tryz.prog (underlying 28) w=.ok (TypeDesc.slice 31) w:=run_underlying clU277
 go_enter Tryz.func277,Tryz.ntmps277
 go_wp2_with (at_builtin;refine wpList_append_own _ rfl _ _ 28 rfl w.heap.size 31 i0 z 6 88 clU277 hi hz hz1 hz2 hzs (by decide) _ _ _ rfl (World.ownsRow_made w #[] 0 (Nat.le_refl _) (Nat.zero_le _) rfl) a 0 c [] rfl rfl (by intro j u hj;simp at hj) (by intro u hu;cases hu) (by unfold maxLen;omega) (by omega) (by simp) ?_)
 intro v' w1 hown hgrow hnil
 go_wp2
 go_ret
 refine ⟨v',rfl,by simpa using hown,?_⟩;exact ((Below.refl _ w).alloc (Nat.le_refl _) _).grown hgrow (by simp) (by intro k hk;simp [Value.ownBlock] at hk;omega)
theorem clM277 (e:List X)(r:qaV)(t:Bool)(N:Nat)(h:(e::r).length<=1000000):callF tab ext0 (N+1) (.fn 277) [.sl t 6 (e::r)] []=some (.bs 0 0 (e::r).length,[.row 6 (e::r)]):=by have:=callF_of (T:=tab) (ext:=ext0) (N:=N) (f:=277) (args:=[.sl t 6 (e::r)]) (inb:=[]) (r:=some (.bs 0 0 (0+(e::r).length),[.row 6 ([]++(e::r))])) [(7,.fresh)] [] (pf1 (a:=(e::r).isEmpty=false/\roomOk (0+(e::r).length) 88=true) ⟨rfl,by rw [Nat.zero_add];exact roomC h (by decide)⟩) (by kernel_rfl);rw [Nat.zero_add,qaK] at this;exact this
theorem cl_sem277 (t:Bool)(es:qaV)(h:es.length<=1000000):FSem Tryz.prog (RCode Tryz.prog gl) 277 [.sl t 6 es] [] (.bs 0 0 es.length) [.row 6 es]:=by
 cases es with
 |cons e r=>exact ((machine0 1).fn _ _ _ _ _ (clM277 e r t 0 h)).2
 |nil=>
  intro K C w cargs hI ha;have hs:cargs.size=1:=ha.1;have r0:=ha.2 0 _ cargs[0] rfl (qao (by omega));have hca:cargs=#[cargs[0]]:=by
   refine Array.ext (by simp [hs]) fun i h1 h2=>?_
   match i,h1,h2 with
   |0,_,_=>rfl
   |i+1,h1,_=>omega
  rw [hca];generalize cargs[0]=v at r0;have key:Calls Tryz.prog 277 #[v] w fun e w'=>∃v',e=.returned v'/\w'.ownsRow w.heap.size 31 6 v' 0 []/\Below w.heap.size w w':=by
   generalize hx:X.sl t 6 []=x at r0;cases r0<;>try cases hx
   case slNil ob=>
    cases ob with
    |none=>
     refine (clN277 0 0 w).mono ?_
     rintro e w' ⟨rfl,rfl⟩
     exact ⟨_,rfl,World.ownsRow_nil _ _ _ _,Below.refl _ _⟩
    |some a=>exact clZ277 a 0 w
   case sl=>exact clZ277 _ _ w
  exact fsem_none (inb:=[]) (args:=[]) hI key
end
section
theorem clI265:(Tryz.prog.info? 106).map (fun i=>(i.zero.map (·.cells.size),i.size,i.bytes))=some (some 5,5,80):=by kernel_rfl
theorem clU265:Tryz.prog.underlying 53=some (.slice 106):=by kernel_rfl
set_option maxHeartbeats 1000000 in
theorem clN265 (n c:Nat)(w:World):Calls Tryz.prog 265 #[.slice none n c] w fun e w'=>e=.returned (.slice none 0 0)/\w'=w:=by
 have mixed:Tryz.prog.follows .mixedOrders=true:=by kernel_rfl
 have q:∀(w:World) (a:Option Addr) (n c n' c':Nat),(binOp .eql 53 (.slice a n c) (.slice none n' c')).run Tryz.prog w=.ok (.bool a.isNone) w:=fun w a n c n' c'=>Lib.run_eql_slice_nil w _ _ a n c n' c' clU265
 go_enter Tryz.func265,Tryz.ntmps265
 go_wp2
 go_ret
 exact ⟨rfl,rfl⟩
set_option maxHeartbeats 2000000 in
set_option maxRecDepth 100000 in
theorem clZ265 (a:Addr)(c:Nat)(w:World):Calls Tryz.prog 265 #[.slice (some a) 0 c] w fun e w'=>∃v',e=.returned v'/\w'.ownsRow w.heap.size 106 5 v' 0 []/\Below w.heap.size w w':=by
 have mixed:Tryz.prog.follows .mixedOrders=true:=by kernel_rfl
 obtain ⟨i0,hi,hzz⟩:=qaf.1 clI265;simp only [qab] at hzz;obtain ⟨hz0,hz1,hz2⟩:=hzz;obtain ⟨z,hz,hzs⟩:=qaf.1 hz0;have q:∀(w:World) (a:Option Addr) (n c n' c':Nat),(binOp .eql 53 (.slice a n c) (.slice none n' c')).run Tryz.prog w=.ok (.bool a.isNone) w:=fun w a n c n' c'=>Lib.run_eql_slice_nil w _ _ a n c n' c' clU265;have u:∀w,Sem.run Tryz.prog (underlying 53) w=.ok (TypeDesc.slice 106) w:=run_underlying clU265
 go_enter Tryz.func265,Tryz.ntmps265
 go_wp2_with (at_builtin;refine wpList_append_own _ rfl _ _ 53 rfl w.heap.size 106 i0 z 5 80 clU265 hi hz hz1 hz2 hzs (by decide) _ _ _ rfl (World.ownsRow_made w #[] 0 (Nat.le_refl _) (Nat.zero_le _) rfl) a 0 c [] rfl rfl (by intro j u hj;simp at hj) (by intro u hu;cases hu) (by unfold maxLen;omega) (by omega) (by simp) ?_)
 intro v' w1 hown hgrow hnil
 go_wp2
 go_ret
 refine ⟨v',rfl,by simpa using hown,?_⟩;exact ((Below.refl _ w).alloc (Nat.le_refl _) _).grown hgrow (by simp) (by intro k hk;simp [Value.ownBlock] at hk;omega)
theorem clM265 (e:List X)(r:qaV)(t:Bool)(N:Nat)(h:(e::r).length<=1000000):callF tab ext0 (N+1) (.fn 265) [.sl t 5 (e::r)] []=some (.bs 0 0 (e::r).length,[.row 5 (e::r)]):=by have:=callF_of (T:=tab) (ext:=ext0) (N:=N) (f:=265) (args:=[.sl t 5 (e::r)]) (inb:=[]) (r:=some (.bs 0 0 (0+(e::r).length),[.row 5 ([]++(e::r))])) [(7,.fresh)] [] (pf1 (a:=(e::r).isEmpty=false/\roomOk (0+(e::r).length) 80=true) ⟨rfl,by rw [Nat.zero_add];exact roomC h (by decide)⟩) (by kernel_rfl);rw [Nat.zero_add,qaK] at this;exact this
theorem cl_sem265 (t:Bool)(es:qaV)(h:es.length<=1000000):FSem Tryz.prog (RCode Tryz.prog gl) 265 [.sl t 5 es] [] (.bs 0 0 es.length) [.row 5 es]:=by
 cases es with
 |cons e r=>exact ((machine0 1).fn _ _ _ _ _ (clM265 e r t 0 h)).2
 |nil=>
  intro K C w cargs hI ha;have hs:cargs.size=1:=ha.1;have r0:=ha.2 0 _ cargs[0] rfl (qao (by omega));have hca:cargs=#[cargs[0]]:=by
   refine Array.ext (by simp [hs]) fun i h1 h2=>?_
   match i,h1,h2 with
   |0,_,_=>rfl
   |i+1,h1,_=>omega
  rw [hca];generalize cargs[0]=v at r0;have key:Calls Tryz.prog 265 #[v] w fun e w'=>∃v',e=.returned v'/\w'.ownsRow w.heap.size 106 5 v' 0 []/\Below w.heap.size w w':=by
   generalize hx:X.sl t 5 []=x at r0;cases r0<;>try cases hx
   case slNil ob=>
    cases ob with
    |none=>
     refine (clN265 0 0 w).mono ?_
     rintro e w' ⟨rfl,rfl⟩
     exact ⟨_,rfl,World.ownsRow_nil _ _ _ _,Below.refl _ _⟩
    |some a=>exact clZ265 a 0 w
   case sl=>exact clZ265 _ _ w
  exact fsem_none (inb:=[]) (args:=[]) hI key
end
end Go.Proofs.YtonnphbfclaigaaGreatDoor
namespace Go.Proofs
open Go.Shelf
namespace YtonnphbfclaigaaGreatDoor
open Go.RowKit Go.Em
def BytesAt (w:World)(b:Nat)(l:List UInt8)(n:Nat):Prop:=∀j,j<n->w.cell? ⟨b,j,none⟩=some (.int .u8 ((l.getD j 0).toNat:Int))/\w.frozen? ⟨b,j,none⟩=false
theorem bytes_set {w:World}{b n i:Nat}{l:List UInt8}(h:BytesAt w b l n)(hi:i<n)(hn:n=l.length)(v:UInt8):BytesAt (w.setCell ⟨b,i,none⟩ (.int .u8 (v.toNat:Int))) b (l.set i v) n:=fun j hj=>by obtain ⟨h1,h2⟩:=h j hj<;>grind[World.frozen?_setCell,World.cell?_setCell_same,World.cell?_setCell_other]
def shStep (c d:Int)(l:List UInt8)(i:Nat):List UInt8:=(l.take i).map (shB c d)++l.drop i
theorem shStep_len (c d:Int)(l:List UInt8)(i:Nat):(shStep c d l i).length=l.length:=by grind[shStep]
theorem shStep_at {c d:Int}{l:List UInt8}{i:Nat}(hi:i<l.length):(shStep c d l i).getD i 0=l.getD i 0:=by grind[shStep]
theorem shStep_next {c d:Int}{l:List UInt8}{i:Nat}(hi:i<l.length):shStep c d l (i+1)=(shStep c d l i).set i (shB c d (l.getD i 0)):=by
 unfold shStep;rw [List.take_add_one,qad hi,Option.toList_some,List.map_append,qaO,List.map_nil];rw [List.drop_eq_getElem_cons hi];rw [List.set_append_right _ _ (by grind)];have:i-((l.take i).map (shB c d)).length=0:=by simp;omega
 grind
theorem shStep_all (c d:Int)(l:List UInt8):shStep c d l l.length=l.map (shB c d):=by grind[shStep]
set_option maxHeartbeats 4000000 in
set_option maxRecDepth 100000 in
theorem shifted_calls (s:qaW)(c d:Int)(hc0:0<=c)(hc1:c<=97)(hd0:-32<=d)(hd1:d<=32)(hcd:0<=c+d)(hs:s.size<=1000000)(w:World):
  Calls Tryz.prog 494 #[.string s,.int .u8 c,.int .i64 d] w fun e w'=>e=.returned (.string ⟨(s.data.toList.map (shB c d)).toArray⟩)/\Below w.heap.size w w':=by
 have hcv:=run_bytes_of_string (P:=Tryz.prog) w 9 166 5 s Tryz.underlying9 Tryz.underlying166 Tryz.underlying5;have hlen:s.data.toList.length=s.size:=Array.length_toList ..;obtain ⟨l,hl⟩:∃l,l=s.data.toList:=⟨_,rfl⟩;rw [<-hl] at hlen ⊢;obtain ⟨W0,hW0⟩:∃W0,W0=w.drew.alloc (.cells (bytesRow s (grownCap w s.size 0 5)) 5 ((bytesRow s (grownCap w s.size 0 5)).size,(bytesRow s (grownCap w s.size 0 5)).size+1)):=⟨_,rfl⟩;obtain ⟨cap,hcap⟩:∃cap,cap=grownCap w s.size 0 5:=⟨_,rfl⟩;rw [<-hW0,<-hcap] at hcv;have hB0:Below w.heap.size w W0:=by rw [hW0];exact (Below.refl _ w).drew.alloc (Nat.le_refl _) _
 have hA0:BytesAt W0 w.heap.size l s.size:=fun j hj=>by
  have hj':j<s.data.size:=hj;rw [hW0];have e1:=World.cell?_alloc_mark w.drew (bytesRow s (grownCap w s.size 0 5)) 5 ((bytesRow s (grownCap w s.size 0 5)).size,(bytesRow s (grownCap w s.size 0 5)).size+1) j;have e2:=World.frozen?_alloc_mark w.drew (bytesRow s (grownCap w s.size 0 5)) 5 (bytesRow s (grownCap w s.size 0 5)).size ((bytesRow s (grownCap w s.size 0 5)).size+1) j;have hh:w.drew.heap.size=w.heap.size:=rfl
  grind[bytesRow]
 have hback:∀wx,BytesAt wx w.heap.size (shStep c d l s.size) s.size->(convert 166 9 (.slice (some ⟨w.heap.size,0,none⟩) s.size cap)).run Tryz.prog wx=.ok (.string ⟨(l.map (shB c d)).toArray⟩) wx:=fun wx h=>by
  have e1:shStep c d l s.size=l.map (shB c d):=by rw [<-hlen];exact shStep_all c d l
  rw [e1] at h;have hlm:(l.map (shB c d)).length=s.size:=by rw [qay,hlen]
  have:=run_convert_bytes_back (P:=Tryz.prog) wx 166 9 5 ⟨w.heap.size,0,none⟩ cap (l.map (shB c d)) Tryz.underlying166 Tryz.underlying5 Tryz.underlying9 (fun j hj=>by rw [Addr.add_lit,Nat.zero_add,(h j (by omega)).1,qaF,qad hj];rfl)
  grind
 have HB:Hid (∀wx,BytesAt wx w.heap.size (shStep c d l s.size) s.size->(convert 166 9 (.slice (some ⟨w.heap.size,0,none⟩) s.size cap)).run Tryz.prog wx=.ok (.string ⟨(l.map (shB c d)).toArray⟩) wx):=hback;have HL:Aside (l.length=s.size):=hlen;have HA0:Hid (BytesAt W0 w.heap.size l s.size):=hA0;clear hback hlen hA0 hW0 hcap hl
 go_enter Tryz.func494,Tryz.ntmps494
 go_wp2
 go_loopg [8,9,14] s.size (fun g _ _ s14 wx=>∃i:Nat,i+g=s.size/\s14=.int .i64 i/\Hid (BytesAt wx w.heap.size (shStep c d l i) s.size)/\Below w.heap.size w wx)
 case atStart=>exact ⟨0,by omega,rfl,HA0,hB0⟩
 case round=>
  obtain ⟨i,hig,rfl,hA,hB⟩:=hrel;cases gk with
  |zero=>
   obtain rfl:i=s.size:=by omega
   have hiz:¬((s.size:Int)<(s.size:Int)):=by omega
   have hb:=HB.out _ hA.out
   go_wp2
   go_ret
   exact ⟨rfl,hB⟩
  |succ g=>
   have hi:i<s.size:=by omega
   have hiz:(i:Int)<(s.size:Int):=by omega
   obtain ⟨h1,h2⟩:=hA.out i hi;rw [shStep_at (by rw [HL.out];omega)] at h1;obtain ⟨b,hb⟩:∃b,l.getD i 0=b:=⟨_,rfl⟩;rw [hb] at h1;have HN2:Aside (shB c d b=b->BytesAt wr w.heap.size (shStep c d l (i+1)) s.size):=fun e=>by
    have hi':i<(shStep c d l i).length:=by rw [shStep_len,HL.out];exact hi
    have e2:(shStep c d l i).set i b=shStep c d l i:=by have e3:=shStep_at (c:=c) (d:=d) (l:=l) (i:=i) (by rw [HL.out];omega);rw [qaF,qad hi',hb] at e3;have e4:(shStep c d l i)[i]=b:=e3;rw [<-e4];exact List.set_getElem_self hi'
    rw [shStep_next (by rw [HL.out];omega),hb,e,e2];exact hA.out
   have HN:Aside (BytesAt (wr.setCell ⟨w.heap.size,i,none⟩ (.int .u8 ((shB c d b).toNat:Int))) w.heap.size (shStep c d l (i+1)) s.size):=by show BytesAt _ _ _ _;rw [shStep_next (by rw [HL.out];omega),hb];exact bytes_set hA.out hi (by rw [shStep_len];exact HL.out.symm) _
   have hb8:(b.toNat:Int)<256:=by have:=b.toNat_lt;omega
   have hb0:(0:Int)<=(b.toNat:Int):=by omega
   have HS:Aside (shB c d b=if c<=(b.toNat:Int)/\(b.toNat:Int)<c+26 then UInt8.ofNat ((b.toNat:Int)+d).toNat else b):=rfl;clear hb;obtain ⟨z,hz⟩:∃z:Int,z=(b.toNat:Int):=⟨_,rfl⟩;rw [<-hz] at h1 hb8 hb0
   go_wp2
   ·have e:shB c d b=UInt8.ofNat ((b.toNat:Int)+d).toNat:=by rw [HS.out,if_pos (by omega)]
    have e2:((shB c d b).toNat:Int)=(b.toNat:Int)+d:=by rw [e,UInt8.toNat_ofNat'];omega
    have hN:BytesAt (wr.setCell ⟨w.heap.size,i,none⟩ (.int .u8 ((b.toNat:Int)+d))) w.heap.size (shStep c d l (i+1)) s.size:=by rw [<-e2];exact HN.out
    go_roundg g
    case measure=>omega
    case rel=>exact ⟨i+1,by omega,rfl,hN,hB.setCell (Nat.le_refl _) _⟩
   ·have hN:=HN2.out (by rw [HS.out,if_neg (by omega)])
    go_roundg g
    case measure=>omega
    case rel=>exact ⟨i+1,by omega,rfl,hN,hB⟩
   have hN:=HN2.out (by rw [HS.out,if_neg (by omega)])
   go_roundg g
   case measure=>omega
   case rel=>exact ⟨i+1,by omega,rfl,hN,hB⟩
theorem three_args {K:Kn}{C:List CB}{u v x:Value}{cargs:Array Value}(ha:ArgsRep K C [.v u,.v v,.v x] cargs):cargs=#[u,v,x]:=by
 have hs:cargs.size=3:=ha.1;have r0:=rep_v (ha.2 0 _ cargs[0] rfl (qao (by omega)));have r1:=rep_v (ha.2 1 _ cargs[1] rfl (qao (by omega)));have r2:=rep_v (ha.2 2 _ cargs[2] rfl (qao (by omega)))
 grind
theorem shift_sem {R:CodeRel}(s:qaW)(c d:Int)(hc0:0<=c)(hc1:c<=97)(hd0:-32<=d)(hd1:d<=32)(hcd:0<=c+d)(hs:s.size<=1000000)(inb:List Bx):FSem Tryz.prog R 494 [.v (.string s),.v (.int .u8 c),.v (.int .i64 d)] inb (.v (.string ⟨(s.data.toList.map (shB c d)).toArray⟩)) inb:=by
 refine fsem_rep fun cargs w K C hI ha=>?_;rw [three_args ha];refine (shifted_calls s c d hc0 hc1 hd0 hd1 hcd hs w).mono ?_
 rintro e w' ⟨rfl,hB⟩
 exact ⟨_,rfl,fun _ _=>.v rfl,hB⟩
end YtonnphbfclaigaaGreatDoor
def Tryz.laysClone_ren:Go.Shelf.Ren:=⟨fun|15=>86|n=>n,fun|22=>25|3=>3|4=>4|n=>n,fun|n=>n⟩
theorem Tryz.laysClone:Go.Proofs.Lays2.n15 Tryz.prog Tryz.laysClone_ren:={
 mixed:=by kernel_rfl
 f15:=Tryz.func86.trans (congrArg some (by kernel_rfl))
 t3:=Tryz.underlying3
 a3:=Tryz.isAgg3
 z3:=Tryz.sizeOf3
 v3:=Tryz.zeroValue3
 t4:=Tryz.underlying4
 a4:=Tryz.isAgg4
 z4:=Tryz.sizeOf4
 v4:=Tryz.zeroValue4
 t22:=Tryz.underlying25
 a22:=Tryz.isAgg25
 z22:=Tryz.sizeOf25
 v22:=Tryz.zeroValue25
 i3:=by kernel_rfl}
def Tryz.laysValid_ren:Go.Shelf.Ren:=⟨fun|196=>301|259=>378|n=>n,fun|9=>9|4=>4|3=>3|5=>5|12=>12|119=>419|0=>0|46=>337|139=>422|138=>421|53=>366|n=>n,fun|3=>1|4=>2|n=>n⟩
theorem Tryz.laysValid:Go.Proofs.Lays.n196 Tryz.prog Tryz.laysValid_ren:={
 mixed:=by kernel_rfl
 f196:=Tryz.func301.trans (congrArg some (by kernel_rfl))
 f259:=Tryz.func378.trans (congrArg some (by kernel_rfl))
 t0:=Tryz.underlying0
 a0:=Tryz.isAgg0
 z0:=Tryz.sizeOf0
 v0:=Tryz.zeroValue0
 t3:=Tryz.underlying3
 a3:=Tryz.isAgg3
 z3:=Tryz.sizeOf3
 v3:=Tryz.zeroValue3
 t4:=Tryz.underlying4
 a4:=Tryz.isAgg4
 z4:=Tryz.sizeOf4
 v4:=Tryz.zeroValue4
 t5:=Tryz.underlying5
 a5:=Tryz.isAgg5
 z5:=Tryz.sizeOf5
 v5:=Tryz.zeroValue5
 t9:=Tryz.underlying9
 a9:=Tryz.isAgg9
 z9:=Tryz.sizeOf9
 v9:=Tryz.zeroValue9
 t12:=Tryz.underlying12
 a12:=Tryz.isAgg12
 z12:=Tryz.sizeOf12
 v12:=Tryz.zeroValue12
 t46:=Tryz.underlying337
 a46:=Tryz.isAgg337
 z46:=Tryz.sizeOf337
 v46:=Tryz.zeroValue337
 t53:=Tryz.underlying366
 a53:=Tryz.isAgg366
 z53:=Tryz.sizeOf366
 v53:=Tryz.zeroValue366
 t119:=Tryz.underlying419
 a119:=Tryz.isAgg419
 z119:=Tryz.sizeOf419
 t138:=Tryz.underlying421
 a138:=Tryz.isAgg421
 z138:=Tryz.sizeOf421
 v138:=Tryz.zeroValue421
 t139:=Tryz.underlying422
 a139:=Tryz.isAgg422
 z139:=Tryz.sizeOf422
 v139:=Tryz.zeroValue422
 g3:=by kernel_rfl
 g4:=by kernel_rfl}
namespace YtonnphbfclaigaaGreatDoor
open Go.RowKit Go.Em
set_option maxHeartbeats 1000000 in
set_option maxRecDepth 100000 in
theorem compare_calls (a b:qaW)(w:World):
  Calls Tryz.prog 238 #[.string a,.string b] w fun e w'=>e=.returned (.int .i64 (Lib.compareBytes a.data.toList b.data.toList))/\w'=w:=by
 go_enter Tryz.func238,Tryz.ntmps238
 go_wp2
 rw [run_callFunc_extern Tryz.func316 (by kernel_rfl) (by kernel_rfl) (by kernel_rfl) (e:=Extern.BytealgCompare.compare) (by kernel_rfl),Lib.run_compareString];simp only [Result.andThen];rw [Oper.upon_value]
 go_wp2
 go_ret
 exact ⟨rfl,rfl⟩
section
variable {P:Program} {R:CodeRel}
theorem fsem_word {f:FuncId}{args:List X}{inb:List Bx}{u:Value}(hu:okV u=true)(h:∀(cargs:Array Value) (w:World) (K:Kn) (C:List CB),Inv P R K C inb w->ArgsRep K C args cargs->Calls P f cargs w fun e w'=>e=.returned u/\Below w.heap.size w w'):FSem P R f args inb (.v u) inb:=by
 intro K C w cargs hI ha;refine (h cargs w K C hI ha).mono ?_
 rintro e w' ⟨rfl,hB⟩
 have hf:=frame_of_below hB;exact ⟨u,K,[],rfl,owns_same (hI.still hf),.v hu,KLe.refl _,fun b o v e=>.inl e,fun b o ho=>.inl (by rw [List.append_nil] at ho;exact ho),hf.mono (fun b o _ hs=>hs.elim),fun i B hB hl=>⟨B,hB,hl⟩⟩
end
theorem intsOf_length:∀{es:qaV} {zs:List Int},intsOf es=some zs->es.length=zs.length/\∀j,j<zs.length->es[j]?=some [.v (.int .i64 (zs.getD j 0))]
 |[],zs,h=>by simp only [intsOf,qaa] at h;subst h;exact ⟨rfl,fun j hj=>by simp at hj⟩
 |e::r,zs,h=>by
  unfold intsOf at h;split at h;next heq=>cases heq
  ·rename_i z r' heq;obtain ⟨rfl,rfl⟩:=List.cons.inj heq;split at h
   ·rename_i l hl;simp only [qaa] at h;subst h;obtain ⟨h1,h2⟩:=intsOf_length hl;refine ⟨by simp [h1],fun j hj=>?_⟩;cases j with
    |zero=>rfl
    |succ j=>have:=h2 j (by simpa using hj);simpa using this
   cases h
  cases h
theorem clone_sem {R:CodeRel}(t:Bool)(es:qaV)(zs:List Int)(h:intsOf es=some zs)(hz:zs.length<=1000000)(inb:List Bx):FSem Tryz.prog R 86 [.sl t 1 es] inb (.bs inb.length 0 zs.length) (inb++[.row 1 (intRow zs)]):=by
 refine fsem_ints (el:=3) zs fun cargs w K C hI ha=>?_;obtain ⟨h1,h2⟩:=intsOf_length h;have hs:cargs.size=1:=ha.1;have r0:=ha.2 0 _ cargs[0] rfl (qao (by omega));have hca:cargs=#[cargs[0]]:=by
  refine Array.ext (by simp [hs]) fun i h1 h2=>?_
  match i,h1,h2 with
  |0,_,_=>rfl
  |i+1,h1,_=>omega
 rw [hca];generalize cargs[0]=v at r0;generalize hx:X.sl t 1 es=x at r0;cases r0<;>try cases hx
 case slNil ob=>
  simp only [intsOf,qaa] at h;subst h;cases ob with
  |none=>
   refine (Any.slices_Clone_int_nil Tryz.laysClone 0 0 w).mono ?_
   rintro e w' ⟨rfl,rfl⟩
   exact ⟨_,rfl,⟨rfl,.inl ⟨rfl,rfl⟩⟩,Below.refl _ _⟩
  |some a=>
   refine (Any.slices_Clone_int_zero Tryz.laysClone a 0 w).mono ?_
   rintro e w' ⟨v',rfl,ho,_,hB⟩
   exact ⟨v',rfl,ho,hB⟩
 case sl b o cap vals hcap hcell hr htight hlen hk=>
  have hcells:∀j,j<zs.length->w.cell? ⟨b,o+j,none⟩=some (.int .i64 (zs.getD j 0)):=fun j hj=>by
   have e1:=h2 j hj;have e2:at2 es j 0=some (.v (.int .i64 (zs.getD j 0))):=by simp [at2,e1]
   have e3:=hI.known _ _ _ (hk j 0 _ e2);have e4:=rep_v (hr j 0 _ e2);rw [<-e4];simpa using e3
  refine (Any.slices_Clone_int Tryz.laysClone b o es.length cap zs w (by omega) (by omega) hcells).mono ?_
  rintro e w' ⟨v',rfl,ho,_,hB⟩
  refine ⟨v',rfl,?_,hB⟩;rw [h1,List.take_length] at ho;exact ho
theorem tabs_of {R:CodeRel}(hR:R.gl=gl){K:Kn}{C:List CB}{bx:List Bx}{w:World}(hI:Inv Tryz.prog R K C bx w):Lib.Utf8Tabs (Tryz.laysValid_ren.g 3) (Tryz.laysValid_ren.g 4) w:=by
 have cell:∀(g:Nat) (cs:List X),gl g=some cs->∀(j:Nat) (v:Value),cs[j]?=some (.v v)->w.cell? ⟨g,j,none⟩=some v:=fun g cs hg j v hj=>by
  have h:=hI.glob g cs (by rw [hR];exact hg);cases h with
  |dp vals hcell hk hr=>have e3:=hI.known _ _ _ (hk j _ hj);rw [<-rep_v (hr j _ hj)];simpa using e3
 have g3:Tryz.laysValid_ren.g 3=1:=by kernel_rfl
 have g4:Tryz.laysValid_ren.g 4=2:=by kernel_rfl
 rw [g3,g4];constructor
 ·intro c hc;have hall:((List.range 256).all fun c=>match (bytesX Go.Pinned.utf8FirstZ)[c]? with
   |some (.v (.int .u8 z))=>z==Lib.firstT c
   |_=>false)=true:=by kernel_rfl
  have h1:=qaA.1 hall c (List.mem_range.2 hc);split at h1;next z hz=>rw [cell 1 _ rfl c _ hz,eq_of_beq h1]
  cases h1
 intro i hi;have hall:((List.range 16).all fun i=>(match (bytesX ([128,191,160,191,128,159,144,191,128,143]++List.replicate 22 0))[2*i]? with
  |some (.v (.int .u8 z))=>z==Lib.accLo i
  |_=>false)&&(match (bytesX ([128,191,160,191,128,159,144,191,128,143]++List.replicate 22 0))[2*i+1]? with
  |some (.v (.int .u8 z))=>z==Lib.accHi i
  |_=>false))=true:=by kernel_rfl
 have h1:=qaA.1 hall i (List.mem_range.2 hi);rw [qag] at h1;obtain ⟨h1,h2⟩:=h1;constructor
 ·split at h1;next z hz=>rw [cell 2 _ rfl (2*i) _ hz,eq_of_beq h1]
  cases h1
 split at h2;next z hz=>rw [cell 2 _ rfl (2*i+1) _ hz,eq_of_beq h2]
 cases h2
theorem valid_sem {R:CodeRel}(hR:R.gl=gl)(s:qaW)(hs:s.size<=9223372036854775807)(inb:List Bx):FSem Tryz.prog R 301 [.v (.string s)] inb (.v (.bool (Lib.validD s.data.toList))) inb:=by
 refine fsem_word rfl fun cargs w K C hI ha=>?_;have h2:cargs=#[.string s]:=by
  have hs:cargs.size=1:=ha.1;have r0:=rep_v (ha.2 0 _ cargs[0] rfl (qao (by omega)));refine Array.ext (by simp [hs]) fun i h1 h2=>?_
  match i,h1,h2 with
  |0,_,_=>simpa using r0
  |i+1,h1,_=>omega
 rw [h2];exact Any.utf8_ValidString Tryz.laysValid s w hs (tabs_of hR hI)
theorem ascii_mem {s:qaW}(h:asciiB s=true)(j:Nat)(b:UInt8)(hb:s.data.toList[j]?=some b):b.toNat<128:=by have h1:=qaA.1 h b (qas hb);exact of_decide_eq_true h1
theorem any_sem {R:CodeRel}(s t:qaW)(hs:s.size<4294967281)(ht:t.size<4294967281)(ha:asciiB s=true)(hb:asciiB t=true)(inb:List Bx):FSem Tryz.prog R 389 [.v (.string s),.v (.string t)] inb (.v (.int .i64 (Lib.indexAny s.data.toList t.data.toList))) inb:=by
 refine fsem_word rfl fun cargs w K C hI hc=>?_;have h2:cargs=#[.string s,.string t]:=by
  have hs:cargs.size=2:=hc.1;have r0:=rep_v (hc.2 0 _ cargs[0] rfl (qao (by omega)));have r1:=rep_v (hc.2 1 _ cargs[1] rfl (qao (by omega)));refine Array.ext (by simp [hs]) fun i h1 h2=>?_
  match i,h1,h2 with
  |0,_,_=>simpa using r0
  |1,_,_=>simpa using r1
  |i+2,h1,_=>omega
 rw [h2];exact Any.strings_IndexAny_laid Tryz.laysAny (by kernel_rfl) s t w hs ht (ascii_mem ha) (ascii_mem hb)
theorem ite_some {α:Type}{c:Bool}{a g:α}{b:Option α}(h:(if c=true then some a else b)=some g):(c=true/\a=g)\/(c=false/\b=some g):=by
 cases c with
 |true=>exact .inl ⟨rfl,Option.some.inj h⟩
 |false=>exact .inr ⟨rfl,h⟩
theorem tabOk:TabOk Tryz.prog gl tab:=by
 intro f fd h;unfold tab at h;split at h;·exact ⟨_,h⟩
 cases h
theorem extOk:ExtOk Tryz.prog gl ext:=by
 intro f g hg args inb res outb h;unfold ext at hg;rcases ite_some hg with ⟨hf,hq⟩|⟨_,hg0⟩
 ·have hf':f=238:=by simpa using hf
  subst hf';subst hq;unfold compareExt at h;split at h
  ·rename_i a b;simp only [qaa,qab] at h;obtain ⟨rfl,rfl⟩:=h;refine ⟨fnOk Tryz.func238 (fun e=>absurd e (of_decide_eq_false (by kernel_rfl))) (fun e=>by simpa [e] using (show Tryz.f238.body.isSome=true by kernel_rfl)),fsem_pure rfl fun cargs w K C ha=>?_⟩;have h2:cargs=#[.string a,.string b]:=by
    have hs:cargs.size=2:=ha.1;have r0:=rep_v (ha.2 0 _ cargs[0] rfl (qao (by omega)));have r1:=rep_v (ha.2 1 _ cargs[1] rfl (qao (by omega)));refine Array.ext (by simp [hs]) fun i h1 h2=>?_
    match i,h1,h2 with
    |0,_,_=>simpa using r0
    |1,_,_=>simpa using r1
    |i+2,h1,_=>omega
   rw [h2];exact compare_calls a b w
  cases h
 rcases ite_some hg0 with ⟨hf,hq⟩|⟨_,hg1⟩
 ·have hf':f=301:=by simpa using hf
  subst hf';subst hq;unfold validExt at h;split at h
  ·split at h;next a hsz=>simp only [qaa,qab] at h;obtain ⟨rfl,rfl⟩:=h;exact ⟨fnOk Tryz.func301 (fun e=>absurd e (of_decide_eq_false (by kernel_rfl))) (fun e=>by simpa [e] using (show Tryz.f301.body.isSome=true by kernel_rfl)),valid_sem rfl a hsz inb⟩
   cases h
  cases h
 rcases ite_some hg1 with ⟨hf,hq⟩|⟨_,hg2⟩
 ·have hf':f=86:=by simpa using hf
  subst hf';subst hq;unfold cloneExt at h;split at h
  ·split at h
   ·rename_i zs hzs;split at h;next hle=>simp only [qaa,qab] at h;obtain ⟨rfl,rfl⟩:=h;exact ⟨fnOk Tryz.func86 (fun e=>absurd e (of_decide_eq_false (by kernel_rfl))) (fun e=>by simpa [e] using (show Tryz.f86.body.isSome=true by kernel_rfl)),clone_sem _ _ zs hzs hle inb⟩
    cases h
   cases h
  cases h
 rcases ite_some hg2 with ⟨hf,hq⟩|⟨_,hg3⟩
 ·have hf':f=389:=by simpa using hf
  subst hf';subst hq;unfold indexAnyExt at h;split at h
  ·split at h;next a b hc=>obtain ⟨h1,h2,h3,h4⟩:=hc;simp only [qaa,qab] at h;obtain ⟨rfl,rfl⟩:=h;exact ⟨fnOk Tryz.func389 (fun e=>absurd e (of_decide_eq_false (by kernel_rfl))) (fun e=>by simpa [e] using (show Tryz.f389.body.isSome=true by kernel_rfl)),any_sem a b h1 h2 h3 h4 inb⟩
   split at h;next a b _ hc=>obtain ⟨h1,rfl⟩:=hc;simp only [qaa,qab] at h;obtain ⟨rfl,rfl⟩:=h;exact ⟨fnOk Tryz.func389 (fun e=>absurd e (of_decide_eq_false (by kernel_rfl))) (fun e=>by simpa [e] using (show Tryz.f389.body.isSome=true by kernel_rfl)),marks_sem a h1 inb⟩
   cases h
  cases h
 rcases ite_some hg3 with ⟨hf,hq⟩|⟨_,hg4⟩
 ·have hf':f=258:=by simpa using hf
  subst hf';subst hq;unfold insExt at h;split at h
  ·split at h
   ·rename_i n z t k1 x k2 rows hc;obtain ⟨hk1,hk2,h1,h2,h3,h4⟩:=hc;subst hk1;subst hk2;simp only [qaa,qab] at h;obtain ⟨rfl,rfl⟩:=h;have e:z=Int.ofNat z.toNat:=by simp only [qam];omega
    have:=ins_sem (R:=RCode Tryz.prog gl) n z.toNat t x rows h4 h1 h2;rw [<-e] at this;exact ⟨fnOk Tryz.func258 (fun e=>absurd e (of_decide_eq_false (by kernel_rfl))) (fun e=>by simpa [e] using (show Tryz.f258.body.isSome=true by kernel_rfl)),this⟩
   cases h
  cases h
 rcases ite_some hg4 with ⟨hf,hq⟩|⟨_,hg5⟩
 ·have hf':f=196:=by simpa using hf
  subst hf';subst hq;unfold delExt at h;split at h
  ·split at h
   ·rename_i n z1 z2 k2 rows hc;obtain ⟨hk2,h1,h2,h3,h4,h5⟩:=hc;subst hk2;simp only [qaa,qab] at h;obtain ⟨rfl,rfl⟩:=h;have e1:z1=Int.ofNat z1.toNat:=by simp only [qam];omega
    have e2:z2=Int.ofNat z2.toNat:=by simp only [qam];omega
    have:=del_sem (R:=RCode Tryz.prog gl) n z1.toNat z2.toNat rows (by omega) h5 h1 h2;rw [<-e1,<-e2] at this;exact ⟨fnOk Tryz.func196 (fun e=>absurd e (of_decide_eq_false (by kernel_rfl))) (fun e=>by simpa [e] using (show Tryz.f196.body.isSome=true by kernel_rfl)),this⟩
   cases h
  cases h
 rcases ite_some hg5 with ⟨hf,hq⟩|⟨_,hg6⟩
 ·have hf':f=206:=by simpa using hf
  subst hf';subst hq;unfold insExt at h;split at h
  ·split at h
   ·rename_i n z t k1 x k2 rows hc;obtain ⟨hk1,hk2,h1,h2,h3,h4⟩:=hc;subst hk1;subst hk2;simp only [qaa,qab] at h;obtain ⟨rfl,rfl⟩:=h;have e:z=Int.ofNat z.toNat:=by simp only [qam];omega
    have:=Im.ins_sem (R:=RCode Tryz.prog gl) n z.toNat t x rows h4 h1 h2;rw [<-e] at this;exact ⟨fnOk Tryz.func206 (fun e=>absurd e (of_decide_eq_false (by kernel_rfl))) (fun e=>by simpa [e] using (show Tryz.f206.body.isSome=true by kernel_rfl)),this⟩
   cases h
  cases h
 rcases ite_some hg6 with ⟨hf,hq⟩|⟨_,hg7⟩
 ·have hf':f=207:=by simpa using hf
  subst hf';subst hq;unfold insExt at h;split at h
  ·split at h
   ·rename_i n z t k1 x k2 rows hc;obtain ⟨hk1,hk2,h1,h2,h3,h4⟩:=hc;subst hk1;subst hk2;simp only [qaa,qab] at h;obtain ⟨rfl,rfl⟩:=h;have e:z=Int.ofNat z.toNat:=by simp only [qam];omega
    have:=Iv.ins_sem (R:=RCode Tryz.prog gl) n z.toNat t x rows h4 h1 h2;rw [<-e] at this;exact ⟨fnOk Tryz.func207 (fun e=>absurd e (of_decide_eq_false (by kernel_rfl))) (fun e=>by simpa [e] using (show Tryz.f207.body.isSome=true by kernel_rfl)),this⟩
   cases h
  cases h
 rcases ite_some hg7 with ⟨hf,hq⟩|⟨_,hg8⟩
 ·have hf':f=406:=by simpa using hf
  subst hf';subst hq;unfold insExt at h;split at h
  ·split at h
   ·rename_i n z t k1 x k2 rows hc;obtain ⟨hk1,hk2,h1,h2,h3,h4⟩:=hc;subst hk1;subst hk2;simp only [qaa,qab] at h;obtain ⟨rfl,rfl⟩:=h;have e:z=Int.ofNat z.toNat:=by simp only [qam];omega
    have:=If.ins_sem (R:=RCode Tryz.prog gl) n z.toNat t x rows h4 h1 h2;rw [<-e] at this;exact ⟨fnOk Tryz.func406 (fun e=>absurd e (of_decide_eq_false (by kernel_rfl))) (fun e=>by simpa [e] using (show Tryz.f406.body.isSome=true by kernel_rfl)),this⟩
   cases h
  cases h
 rcases ite_some hg8 with ⟨hf,hq⟩|⟨_,hg9⟩
 ·have hf':f=276:=by simpa using hf
  subst hf';subst hq;unfold cloneXExt at h;split at h
  ·split at h;next t k2 es hc=>obtain ⟨hk2,h1⟩:=hc;subst hk2;simp only [qaa,qab] at h;obtain ⟨rfl,rfl⟩:=h;exact ⟨fnOk Tryz.func276 (fun e=>absurd e (of_decide_eq_false (by kernel_rfl))) (fun e=>by simpa [e] using (show Tryz.f276.body.isSome=true by kernel_rfl)),cl_sem276 t es h1⟩
   cases h
  cases h
 rcases ite_some hg9 with ⟨hf,hq⟩|⟨_,hg10⟩
 ·have hf':f=277:=by simpa using hf
  subst hf';subst hq;unfold cloneXExt at h;split at h
  ·split at h;next t k2 es hc=>obtain ⟨hk2,h1⟩:=hc;subst hk2;simp only [qaa,qab] at h;obtain ⟨rfl,rfl⟩:=h;exact ⟨fnOk Tryz.func277 (fun e=>absurd e (of_decide_eq_false (by kernel_rfl))) (fun e=>by simpa [e] using (show Tryz.f277.body.isSome=true by kernel_rfl)),cl_sem277 t es h1⟩
   cases h
  cases h
 rcases ite_some hg10 with ⟨hf,hq⟩|⟨_,hg11⟩
 ·have hf':f=265:=by simpa using hf
  subst hf';subst hq;unfold cloneXExt at h;split at h
  ·split at h;next t k2 es hc=>obtain ⟨hk2,h1⟩:=hc;subst hk2;simp only [qaa,qab] at h;obtain ⟨rfl,rfl⟩:=h;exact ⟨fnOk Tryz.func265 (fun e=>absurd e (of_decide_eq_false (by kernel_rfl))) (fun e=>by simpa [e] using (show Tryz.f265.body.isSome=true by kernel_rfl)),cl_sem265 t es h1⟩
   cases h
  cases h
 rcases ite_some hg11 with ⟨hf,hq⟩|⟨_,hg12⟩
 ·have hf':f=555:=by simpa using hf
  subst hf';subst hq;unfold cloneXExt at h;split at h
  ·split at h;next t k2 es hc=>obtain ⟨hk2,h1⟩:=hc;subst hk2;simp only [qaa,qab] at h;obtain ⟨rfl,rfl⟩:=h;exact ⟨fnOk Tryz.func555 (fun e=>absurd e (of_decide_eq_false (by kernel_rfl))) (fun e=>by simpa [e] using (show Tryz.f555.body.isSome=true by kernel_rfl)),cl_sem555 t es h1⟩
   cases h
  cases h
 rcases ite_some hg12 with ⟨hf,hq⟩|⟨_,hg13⟩
 ·have hf':f=123:=by simpa using hf
  subst hf';subst hq;unfold itoaExt at h;split at h
  ·split at h;next z hc=>simp only [qaa,qab] at h;obtain ⟨rfl,rfl⟩:=h;exact ⟨fnOk Tryz.func123 (fun e=>absurd e (of_decide_eq_false (by kernel_rfl))) (fun e=>by simpa [e] using (show Tryz.f123.body.isSome=true by kernel_rfl)),itoa_sem rfl z hc.1 hc.2 inb⟩
   cases h
  cases h
 rcases ite_some hg13 with ⟨hf,hq⟩|⟨_,hg14⟩
 ·have hf':f=536:=by simpa using hf
  subst hf';subst hq;unfold repeatExt at h;split at h
  ·split at h;next s c hc=>simp only [qaa,qab] at h;obtain ⟨rfl,rfl⟩:=h;exact ⟨fnOk Tryz.func536 (fun e=>absurd e (of_decide_eq_false (by kernel_rfl))) (fun e=>by simpa [e] using (show Tryz.f536.body.isSome=true by kernel_rfl)),repeat_sem s c hc.1 hc.2.1 hc.2.2 inb⟩
   cases h
  cases h
 rcases ite_some hg14 with ⟨hf,hq⟩|⟨_,hg15⟩
 ·have hf':f=533:=by simpa using hf
  subst hf';subst hq;unfold decodeExt at h;split at h;next s=>simp only [qaa,qab] at h;obtain ⟨rfl,rfl⟩:=h;exact ⟨fnOk Tryz.func533 (fun e=>absurd e (of_decide_eq_false (by kernel_rfl))) (fun e=>by simpa [e] using (show Tryz.f533.body.isSome=true by kernel_rfl)),decode_sem rfl s inb⟩
  cases h
 rcases ite_some hg15 with ⟨hf,hq⟩|⟨_,hg16⟩
 ·have hf':f=392:=by simpa using hf
  subst hf';subst hq;unfold atoiExt at h;split at h
  ·split at h
   ·rename_i s hc;have hres:res=atoiRes s/\outb=inb:=by unfold atoiRes;cases hq:Lib.atoiAll s.data.toList<;>(rw [hq] at h;simp only [qaa,qab] at h;exact ⟨h.1.symm,h.2.symm⟩)
    obtain ⟨rfl,rfl⟩:=hres;exact ⟨fnOk Tryz.func392 (fun e=>absurd e (of_decide_eq_false (by kernel_rfl))) (fun e=>by simpa [e] using (show Tryz.f392.body.isSome=true by kernel_rfl)),atoi_sem rfl s hc outb⟩
   cases h
  cases h
 rcases ite_some hg16 with ⟨hf,hq⟩|⟨_,hg17⟩
 ·have hf':f=517:=by simpa using hf
  subst hf';subst hq;unfold index1Ext at h;split at h
  ·split at h
   ·rename_i s c _ b hb;split at h;·simp only [qaa,qab] at h;obtain ⟨rfl,rfl⟩:=h;exact ⟨fnOk Tryz.func517 (fun e=>absurd e (of_decide_eq_false (by kernel_rfl))) (fun e=>by simpa [e] using (show Tryz.f517.body.isSome=true by kernel_rfl)),index1_sem s c b hb inb⟩
    cases h
   cases h
  cases h
 rcases ite_some hg17 with ⟨hf,hq⟩|⟨_,hg18⟩
 ·have hf':f=430:=by simpa using hf
  subst hf';subst hq;unfold pointsExt at h;split at h
  ·rename_i t es;split at h
   ·rename_i zs hzs;split at h
    ·rename_i hle;have:=points_sem (R:=RCode Tryz.prog gl) t es zs hzs hle inb;split at h;next hp=>rw [if_pos hp] at this;simp only [qaa,qab] at h;obtain ⟨rfl,rfl⟩:=h;exact ⟨fnOk Tryz.func430 (fun e=>absurd e (of_decide_eq_false (by kernel_rfl))) (fun e=>by simpa [e] using (show Tryz.f430.body.isSome=true by kernel_rfl)),this⟩
     rename_i hp;rw [if_neg hp] at this;simp only [qaa,qab] at h;obtain ⟨rfl,rfl⟩:=h;exact ⟨fnOk Tryz.func430 (fun e=>absurd e (of_decide_eq_false (by kernel_rfl))) (fun e=>by simpa [e] using (show Tryz.f430.body.isSome=true by kernel_rfl)),this⟩
    cases h
   cases h
  cases h
 rcases ite_some hg18 with ⟨hf,hq⟩|⟨_,hg19⟩
 ·have hf':f=494:=by simpa using hf
  subst hf';subst hq;unfold shiftExt at h;split at h
  ·split at h;next s c d hc=>simp only [qaa,qab] at h;obtain ⟨rfl,rfl⟩:=h;exact ⟨fnOk Tryz.func494 (fun e=>absurd e (of_decide_eq_false (by kernel_rfl))) (fun e=>by simpa [e] using (show Tryz.f494.body.isSome=true by kernel_rfl)),shift_sem s c d hc.1 hc.2.1 hc.2.2.1 hc.2.2.2.1 hc.2.2.2.2.1 hc.2.2.2.2.2 inb⟩
   cases h
  cases h
 rcases ite_some hg19 with ⟨hf,hq⟩|⟨_,hg20⟩
 ·have hf':f=83:=by simpa using hf
  subst hf';subst hq;unfold keyExt at h;split at h
  ·rename_i e t es;split at h
   ·rename_i zs hzs;split at h;next hc=>simp only [qaa,qab] at h;obtain ⟨rfl,rfl⟩:=h;exact ⟨fnOk Tryz.func83 (fun e=>absurd e (of_decide_eq_false (by kernel_rfl))) (fun e=>by simpa [e] using (show Tryz.f83.body.isSome=true by kernel_rfl)),key_sem e t es zs hzs hc.1 hc.2.1 hc.2.2 inb⟩
    cases h
   cases h
  cases h
 cases hg20
theorem machine (n:Nat):GamOk Tryz.prog (RCode Tryz.prog gl) (callF tab ext n):=callF_ok tabOk extOk n
end YtonnphbfclaigaaGreatDoor
end Go.Proofs
namespace Go.Proofs.YtonnphbfclaigaaGreatDoor
open Go Go.Em
set_option maxRecDepth 100000
set_option maxHeartbeats 0
variable {g:Nat}{P:Program}{W:World}
def n39 (k:Int):X:=.v (.int .i64 k)
def tz39:X:=.v (.string ⟨#[]⟩)
def nd39 (b:Bool):List X:=[.v (.string ⟨#[100]⟩),n39 8,n39 0,n39 0,n39 0,n39 5,n39 2,tz39,n39 0,n39 0,n39 0,n39 0,.sl b 1 [],.sl b 7 [],.sl b 11 [],.sl b 7 [],.sl b 5 [],.sl b 6 [],.sl b 2 [],.sl b 1 []]
def mk39 (b:Bool):List X:=[n39 5,.sl b 1 [[n39 1]],n39 4,.sl b 1 [[n39 5]],n39 9,n39 0,n39 0,tz39,.sl b 6 [],.sl b 7 []]
def st39:X:=.agg [n39 0,n39 0,.sl false 10 [[n39 2,n39 8,n39 0,tz39,.sl false 6 [],.sl false 7 [],n39 0,n39 8,.sl false 10 [mk39 false],.sl false 6 []]]]
def rs39:X:=.agg [n39 0,n39 0,.sl false 10 [[n39 2,n39 8,n39 0,tz39,.sl false 6 [],.sl false 7 [],n39 0,n39 8,.sl false 10 [mk39 false],.sl false 6 []]],.sl false 11 [],.sl false 11 [],.sl false 6 [],.sl false 10 []]
def in39 (b:Bool):List X:=[n39 1,n39 3,n39 0,.sl b 1 []]++mk39 b++[n39 0,.v (.bool false),.v (.bool false),n39 0,n39 0,n39 0,tz39,.sl b 6 [],.sl b 7 []]
def inM39 (b:Bool):X:=.agg (in39 b)
def bf39 (b:Bool):X:=.agg [n39 0,n39 0,.sl b 10 [[n39 0,n39 0,n39 0,tz39,.sl b 6 [],.sl b 7 [],n39 0,n39 0,.sl b 10 [mk39 b],.sl b 6 []]]]
def sent39 (b:Bool)(m:Int):List X:=[n39 7,.sl b 1 [[n39 0],[n39 2],[n39 0]],n39 m,.sl b 1 [[n39 5]],n39 9,n39 0,n39 0,tz39,.sl b 6 [],.sl b 7 []]
def out39 (b:Bool)(m:Int):X:=.agg [n39 0,n39 0,.sl b 10 [],.sl b 11 [n39 0::sent39 b m],.sl b 11 [],.sl b 6 [[n39 5,.sl b 1 [[n39 1]],n39 1,.v (.string ⟨#[116]⟩),.sl b 2 [[n39 7,.sl b 1 [[n39 0],[n39 2],[n39 0]]]],tz39]],.sl b 10 []]
def inC39 (b:Bool):X:=.agg [n39 2,n39 9,n39 7,.sl b 1 [[n39 0],[n39 2]],n39 0,.sl b 1 [],n39 0,.sl b 1 [],n39 0,n39 0,n39 0,tz39,.sl b 6 [],.sl b 7 [],n39 0,.v (.bool false),.v (.bool false),n39 0,n39 0,n39 0,tz39,.sl b 6 [],.sl b 7 []]
def tw36:St:=⟨[(3,.ptr 0 0 0),(4,.ptr 1 0 0),(5,.ptr 2 0 0),(6,.ptr 3 0 0),(7,.ptr 4 0 0),(8,.v (.bool true))],[.var (nd39 false),.var [n39 0,n39 0,.sl false 10 []],.var (in39 false),.var [n39 0,n39 0,.sl true 10 [],.sl true 11 [],.sl true 11 [],.sl true 6 [],.sl true 10 []],.var [.fn 89 [],.fn 60 [],.fn 52 []]]⟩
def tw17:St:=⟨[(2,.ptr 0 0 0),(3,.ptr 1 0 0),(6,.ptr 2 0 0),(7,.v (.bool true))],[.var (nd39 false),.var [n39 0,n39 0,.sl false 10 [[n39 2,n39 8,n39 0,tz39,.sl false 6 [],.sl false 7 [],n39 0,n39 8,.sl false 10 [mk39 false],.sl false 6 []]]],.var [.fn 89 [],.fn 60 [],.fn 52 []]]⟩
theorem k36 (N:Nat):Gam.pureD (callF tab ext (N+999)) 36 [.agg (nd39 false),.agg [n39 0,n39 0,.sl false 10 []],inM39 false]=some rs39:=
 pure_of [] [] (ps:=[tw36=tw36]) (pf1 rfl) (x:=rs39) (bx:=[]) (by kernel_rfl) rfl
theorem k17 (N:Nat):Gam.pureD (callF tab ext (N+999)) 17 [.agg (nd39 false),st39]=some (.tup [n39 8,.v (.bool true)]):=
 pure_of [] [] (ps:=[tw17=tw17]) (pf1 rfl) (x:=.tup [n39 8,.v (.bool true)]) (bx:=[]) (by kernel_rfl) rfl
theorem k12 (N:Nat):Gam.pureD (callF tab ext (N+999)) 12 [bf39 false,inC39 false,out39 false 4]=some (.v (.bool true)):=by kernel_rfl
theorem k12' (N:Nat):Gam.pureD (callF tab ext (N+999)) 12 [bf39 false,inC39 false,out39 false 3]=some (.v (.bool false)):=by kernel_rfl
theorem k14 (N:Nat):Gam.pureD (callF tab ext (N+999)) 14 [inC39 false,out39 false 4]=some (.v (.bool true)):=by kernel_rfl
theorem k23 (N:Nat):Gam.pureD (callF tab ext (N+999)) 23 [st39]=some (n39 1):=by kernel_rfl
theorem known39 (N:Nat):Gam.pureD (callF tab ext (N+1000)) 11 []=some (.v (.bool true)):=
 pure_of [(53,.p rs39),(58,.p (.tup [n39 8,.v (.bool true)])),(64,.p (.v (.bool true))),(68,.p (.v (.bool true))),(74,.p (.v (.bool false))),(86,.p (n39 1))] [] (pf6 (k36 N) (k17 N) (k12 N) (k14 N) (k12' N) (k23 N)) (x:=.v (.bool true)) (bx:=[]) (by kernel_rfl) rfl
open Go.Em Go.ChangeShapes Go.WideShapes Go.ChangeAt Go.RowKit
def laid2:List (String×DataW Unit):=[("internal/strconv.uint64pow10",Rows.laid_internal_strconv_uint64pow10),("unicode/utf8.acceptRanges",Rows.laid_unicode_utf8_acceptRanges),("strconv.ErrRange",Rows.laid_strconv_ErrRange),("strconv.ErrSyntax",Rows.laid_strconv_ErrSyntax),("unicode/utf8.first",Rows.laid_unicode_utf8_first)]
def bZ:List (String×DataW Unit):=[("math/bits.deBruijn32tab",Rows.laid_math_bits_deBruijn32tab),("math/bits.deBruijn64tab",Rows.laid_math_bits_deBruijn64tab),("internal/strconv.uint64pow10",Rows.laid_internal_strconv_uint64pow10),("unicode/utf8.acceptRanges",Rows.laid_unicode_utf8_acceptRanges),("strconv.ErrRange",Rows.laid_strconv_ErrRange),("strconv.ErrSyntax",Rows.laid_strconv_ErrSyntax),("unicode/utf8.first",Rows.laid_unicode_utf8_first)]
def fG (x:String×DataW Unit):Bool:=x.1== "unicode/utf8.acceptRanges"||x.1== "unicode/utf8.first"||x.1== "internal/strconv.uint64pow10"||x.1== "strconv.ErrRange"||x.1== "strconv.ErrSyntax"
theorem dN:bZ.filter fG=laid2:=by kernel_rfl
def bY (P:Program)(t:TypeId):Array Field:=match P.underlying t with
 |some (.struct fs)=>fs
 |_=>#[]
theorem dX:Tryz.prog.underlying 5=some (.int .u8):=by kernel_rfl
theorem dW:Tryz.prog.underlying 419=some (.array 256 5):=by kernel_rfl
theorem dU:Tryz.prog.underlying 422=some (.array 16 421):=by kernel_rfl
theorem dV:Tryz.prog.underlying 421=some (.struct (bY Tryz.prog 421)):=by kernel_rfl
theorem fH:((bY Tryz.prog 421)[0]?).map (fun f=>(f.type,f.offset))=some (5,0):=by kernel_rfl
theorem field1:((bY Tryz.prog 421)[1]?).map (fun f=>(f.type,f.offset))=some (5,1):=by kernel_rfl
theorem cZ {l:List Nat}(h:∀j z,l[j]?=some z->W.cell? ⟨g,j,none⟩=some (.int .u8 (Int.ofNat z))):Rep (Kw W) [] (.dp (bytesX l)) (.pointer (some ⟨g,0,none⟩)):=by
 have hx:∀(j:Nat) (x:X),(bytesX l)[j]?=some x->∃z,l[j]?=some z/\x=.v (.int .u8 (Int.ofNat z)):=fun j x e=>by unfold bytesX at e;rw [qat,qaf] at e;obtain ⟨z,hz,rfl⟩:=e;exact ⟨z,hz,rfl⟩
 refine .dp (fun j=>.int .u8 (Int.ofNat (l.getD j 0))) (fun j x e=>?_) (fun j x e=>?_) (fun j x e=>?_);·obtain ⟨z,_,rfl⟩:=hx j x e;rfl
 ·obtain ⟨z,hz,rfl⟩:=hx j x e;show W.cell? ⟨g,0+j,none⟩=_;rw [Nat.zero_add,h j z hz,qaF,hz];rfl
 obtain ⟨z,hz,rfl⟩:=hx j x e;rw [qaF,hz];exact .v rfl
theorem dQ:Tryz.prog.underlying 427=some (.array 20 366):=by kernel_rfl
theorem dS:Tryz.prog.underlying 366=some (.int .u64):=by kernel_rfl
theorem dA:Tryz.prog.underlying 170=some (.interface #[("Error",175)]):=by kernel_rfl
theorem dB {H:Type}{enc:TypeId×Value->H}{w:World}{base:Nat}{spare:Nat->Bool}{held:Bool}{fuel:Nat}{t:TypeId}{ms:Array (String×TypeId)}{cs:List Value}{nm:String}{x:DataW H}{q:List MemPlace}(ht:P.underlying t=some (.interface ms))(h:DataW.trod enc P w base spare held fuel t cs=some (.iface nm x,q)):∃u v,cs=[.iface u v]:=by
 cases fuel with
 |zero=>cases h
 |succ f=>
  unfold DataW.trod at h;rw [ht] at h;split at h<;>first
   |exact ⟨_,_,rfl⟩
   |(exfalso;clear h;simp_all;done)
   |(exfalso;simp_all;done)
theorem globs (h:laidMetH Tryz.prog laid2 W):(∀j z,Go.Pinned.utf8FirstZ[j]?=some z->W.cell? ⟨1,j,none⟩=some (.int .u8 (Int.ofNat z)))/\(∀j z,([128,191,160,191,128,159,144,191,128,143]++List.replicate 22 0)[j]?=some z->W.cell? ⟨2,j,none⟩=some (.int .u8 (Int.ofNat z)))/\(∀j,j<20->W.cell? ⟨3,j,none⟩=some (.int .u64 ((10^j:Nat):Int)))/\(∃u v,W.cell? ⟨7,0,none⟩=some (.iface u v))/\∃u v,W.cell? ⟨6,0,none⟩=some (.iface u v):=by
 rw [MakeChecks.laidMetH_plain _ _ _ (by kernel_rfl)] at h;obtain ⟨ps,⟨g3,t3,cs3,iI,p3,q3,hg3,ht3,hv3,hd3,⟨g,t,cs,fuel,p,q,hg,ht,hv,hd,⟨g7,t7,cs7,iF,p7,q7,hg7,ht7,hv7,hd7,⟨g6,t6,cs6,iG,p6,q6,hg6,ht6,hv6,hd6,⟨g',t',cs',fuel',p',q',hg',ht',hv',hd',_,_⟩,_⟩,_⟩,_⟩,_⟩,_,_⟩:=h;obtain rfl:=Option.some.inj ((show Tryz.prog.globalNamed "internal/strconv.uint64pow10"=some 3 by kernel_rfl).symm.trans hg3);obtain rfl:=Option.some.inj ((show (Tryz.prog.globals[3]?).map (·.type)=some 427 by kernel_rfl).symm.trans ht3);obtain rfl:=Option.some.inj ((show Tryz.prog.globalNamed "unicode/utf8.acceptRanges"=some 2 by kernel_rfl).symm.trans hg);obtain rfl:=Option.some.inj ((show (Tryz.prog.globals[2]?).map (·.type)=some 422 by kernel_rfl).symm.trans ht);obtain rfl:=Option.some.inj ((show Tryz.prog.globalNamed "strconv.ErrRange"=some 7 by kernel_rfl).symm.trans hg7);obtain rfl:=Option.some.inj ((show (Tryz.prog.globals[7]?).map (·.type)=some 170 by kernel_rfl).symm.trans ht7);obtain rfl:=Option.some.inj ((show Tryz.prog.globalNamed "strconv.ErrSyntax"=some 6 by kernel_rfl).symm.trans hg6);obtain rfl:=Option.some.inj ((show (Tryz.prog.globals[6]?).map (·.type)=some 170 by kernel_rfl).symm.trans ht6);obtain rfl:=Option.some.inj ((show Tryz.prog.globalNamed "unicode/utf8.first"=some 1 by kernel_rfl).symm.trans hg');obtain rfl:=Option.some.inj ((show (Tryz.prog.globals[1]?).map (·.type)=some 419 by kernel_rfl).symm.trans ht');have c5:Tryz.prog.cellsOf 5=1:=by kernel_rfl
 have iK:Tryz.prog.cellsOf 421=2:=by kernel_rfl
 have iJ:Tryz.prog.cellsOf 366=1:=by kernel_rfl
 refine ⟨?_,?_,?_,?_,?_⟩
 ·intro j z hz;obtain ⟨xs,m,_,ex,_,hl,hel⟩:=DataW.trod_array dW hd';have hlen:Go.Pinned.utf8FirstZ.length=256:=by kernel_rfl
  have hj:j<256:=by rw [<-hlen];exact (qah.1 hz).1
  have hE:=hel j hj;rw [c5,Nat.mul_one,qad (by omega)] at hE;obtain ⟨y,e1,e2,_⟩:=DataW.trod_int dX hE;have e3:(xs.map (·.1))=Go.Pinned.utf8FirstZ.map fun (n:Nat)=>.lit (.int .u8 (Int.ofNat n)):=(DataW.agg.inj (Prod.mk.inj ex).1).symm;have e4:(xs.map (·.1))[j]?=(Go.Pinned.utf8FirstZ.map fun (n:Nat)=>(DataW.lit (.int .u8 (Int.ofNat n)):DataW Unit))[j]?:=by rw [e3]
  rw [qat,qat,qad (by omega:j<xs.length),hz,e2] at e4;simp only [qaG,qaa,DataW.lit.injEq,Lit.int.injEq,true_and] at e4;subst e4;rw [World.var?_cell hg' hv' j];have:cs'.toList[j]?=some (.int .u8 (Int.ofNat z)):=by
   have h0:((cs'.toList.drop j).take 1)[0]?=some (.int .u8 (Int.ofNat z)):=by rw [e1];rfl
   simpa using h0
  simpa using this
 ·intro j z hz;obtain ⟨xs,m,_,ex,_,hl,hel⟩:=DataW.trod_array dU hd;have hlen:([128,191,160,191,128,159,144,191,128,143]++List.replicate 22 0).length=32:=by kernel_rfl
  have hj:j<32:=by rw [<-hlen];exact (qah.1 hz).1
  have hE:=hel (j /2) (by omega);rw [iK,qad (by omega)] at hE;obtain ⟨ys,m2,_,ey,_,hl2,iE⟩:=DataW.trod_struct dV hE;have f2:(bY Tryz.prog 421).size=2:=by kernel_rfl
  have hk:j%2<2:=Nat.mod_lt _ (by omega);have hfo:∀k,k<2->((bY Tryz.prog 421)[k]?).map (fun f=>(f.type,f.offset))=some (5,k):=fun k hk=>by
   match k,hk with
   |0,_=>exact fH
   |1,_=>exact field1
  obtain ⟨f,hf,hf2⟩:=qaf.1 (hfo (j%2) hk);have hE2:=iE (j%2) f hf;obtain ⟨hft,iD⟩:=Prod.mk.inj hf2;rw [hft,iD,c5,qad (by omega)] at hE2;obtain ⟨y,e1,e2,_⟩:=DataW.trod_int dX hE2;have hall:((List.range 32).all fun j=>match (Rows.laid_unicode_utf8_acceptRanges:DataW Unit) with
   |.agg l=>match l[j /2]? with
    |some (.agg r)=>match r[j%2]?,([128,191,160,191,128,159,144,191,128,143]++List.replicate 22 0)[j]? with
     |some (.lit (.int .u8 z)),some z'=>z==Int.ofNat z'
     |_,_=>false
    |_=>false
   |_=>false)=true:=by kernel_rfl
  have h1:=qaA.1 hall j (List.mem_range.2 hj);have e3:(Rows.laid_unicode_utf8_acceptRanges:DataW Unit)=.agg (xs.map (·.1)):=(Prod.mk.inj ex).1;have e5:(xs.map (·.1))[j /2]?=some (.agg (ys.map (·.1))):=by rw [qat,qad (by omega:j /2<xs.length),ey];rfl
  have e6:(ys.map (·.1))[j%2]?=some (.lit (.int .u8 y)):=by rw [qat,qad (by omega:j%2<ys.length),e2];rfl
  rw [e3] at h1;dsimp only at h1;rw [e5] at h1;dsimp only at h1;rw [e6,hz] at h1;have hy:y=Int.ofNat z:=eq_of_beq h1;subst hy;rw [World.var?_cell hg hv j];have:cs.toList[j]?=some (.int .u8 (Int.ofNat z)):=by
   have h0:((((cs.toList.drop (j /2*2)).take 2).drop (j%2)).take 1)[0]?=some (.int .u8 (Int.ofNat z)):=by rw [e1];rfl
   rw [qaq,if_pos (by omega),qak,qaq,if_pos (by omega),qak] at h0;have:j /2*2+(j%2+0)=j:=by omega
   rw [this] at h0;exact h0
  simpa using this
 ·intro j hj;obtain ⟨xs,m,_,ex,_,hl,hel⟩:=DataW.trod_array dQ hd3;have hE:=hel j hj;rw [iJ,Nat.mul_one,qad (by omega)] at hE;obtain ⟨y,e1,e2,_⟩:=DataW.trod_int dS hE;have e3:(Rows.laid_internal_strconv_uint64pow10:DataW Unit)=.agg (xs.map (·.1)):=(Prod.mk.inj ex).1;have hall:((List.range 20).all fun j=>match (Rows.laid_internal_strconv_uint64pow10:DataW Unit) with
   |.agg l=>match l[j]? with
    |some (.lit (.int .u64 z))=>z==((10^j:Nat):Int)
    |_=>false
   |_=>false)=true:=by kernel_rfl
  have h1:=qaA.1 hall j (List.mem_range.2 hj);have e6:(xs.map (·.1))[j]?=some (.lit (.int .u64 y)):=by rw [qat,qad (by omega:j<xs.length),e2];rfl
  rw [e3] at h1;dsimp only at h1;rw [e6] at h1;have hy:y=((10^j:Nat):Int):=eq_of_beq h1;subst hy;rw [World.var?_cell hg3 hv3 j];have:cs3.toList[j]?=some (.int .u64 ((10^j:Nat):Int)):=by
   have h0:((cs3.toList.drop j).take 1)[0]?=some (.int .u64 ((10^j:Nat):Int)):=by rw [e1];rfl
   simpa using h0
  simpa using this
 ·obtain ⟨u,v,e⟩:=dB dA hd7;refine ⟨u,v,?_⟩;rw [World.var?_cell hg7 hv7 0];have:cs7.toList[0]?=some (.iface u v):=by rw [e];rfl
  simpa using this
 obtain ⟨u,v,e⟩:=dB dA hd6;refine ⟨u,v,?_⟩;rw [World.var?_cell hg6 hv6 0];have:cs6.toList[0]?=some (.iface u v):=by rw [e];rfl
 simpa using this
theorem dJ {u:TypeId}{v:Value}(h:W.cell? ⟨g,0,none⟩=some (.iface u v)):Rep (Kw W) [] (.dp [.ifc]) (.pointer (some ⟨g,0,none⟩)):=by
 refine .dp (fun _=>.iface u v) (fun j x e=>?_) (fun j x e=>?_) (fun j x e=>?_)
 all_goals
  match j,e with
  |0,e=>?_
  |j+1,e=>cases e
 ·cases e;rfl
 ·cases e;exact h
 cases e;exact .ifc
theorem dZ (h:∀j,j<20->W.cell? ⟨g,j,none⟩=some (.int .u64 ((10^j:Nat):Int))):Rep (Kw W) [] (.dp ((List.range 20).map fun i=>.v (.int .u64 ((10^i:Nat):Int)))) (.pointer (some ⟨g,0,none⟩)):=by
 have hx:∀(j:Nat) (x:X),((List.range 20).map fun i:Nat=>(X.v (.int .u64 ((10^i:Nat):Int))))[j]?=some x->j<20/\x=.v (.int .u64 ((10^j:Nat):Int)):=fun j x e=>by rw [qat,qaf] at e;obtain ⟨i,hi,rfl⟩:=e;obtain ⟨hl,hi⟩:=qah.1 hi;rw [List.getElem_range] at hi;subst hi;exact ⟨by simpa using hl,rfl⟩
 refine .dp (fun j=>.int .u64 ((10^j:Nat):Int)) (fun j x e=>?_) (fun j x e=>?_) (fun j x e=>?_);·obtain ⟨_,rfl⟩:=hx j x e;rfl
 ·obtain ⟨hj,rfl⟩:=hx j x e;show W.cell? ⟨g,0+j,none⟩=_;rw [Nat.zero_add,h j hj]
 obtain ⟨_,rfl⟩:=hx j x e;exact .v rfl
theorem dY (h7:laidMetH Tryz.prog bZ W):GlobOk (RCode Tryz.prog gl) (Kw W):=by
 have h:=h7.filter fG;rw [dN] at h;obtain ⟨h0,h1,h3,⟨u,v,hr⟩,⟨u',v',hs⟩⟩:=globs h;intro g cs e;change gl g=some cs at e;unfold gl at e;split at e
 ·rename_i hg;obtain rfl:g=1:=by simpa using hg
  cases e;exact cZ h0
 split at e
 ·rename_i hg;obtain rfl:g=2:=by simpa using hg
  cases e;exact cZ h1
 split at e
 ·rename_i hg;obtain rfl:g=3:=by simpa using hg
  cases e;exact dZ h3
 split at e
 ·rename_i hg;obtain rfl:g=6:=by simpa using hg
  cases e;exact dJ hs
 split at e
 ·rename_i hg;obtain rfl:g=7:=by simpa using hg
  cases e;exact dJ hr
 cases e
open Go.ChangeShapes Go.WideShapes Go.ChangeAt Go.RowKit Go.Em
theorem dh {f:FuncId}{fn:Func}{s:ChangeSpec}{c:OpenClaim}(p1:laidOutB P=true)(p2:mapsRowed P=true)(p3:((P.stops==[])&&(P.stopKnobs==[]))=true)
  (p4:P.stopsHeard=true) (p5:P.mayEnter=true)
  (a1:(c.inPlace==P.inPlace f)=true) (a2:(c.unfollowed==P.unfollowed f)=true) (a3:(c.recurses==P.recurses f)=true) (a4:(c.named==P.varsNamed f)=true)
  (b1:(c.wf (OpenSpec.ofChange s)&&fn.params.all (P.readableRec ·)&&namedTie P c.named s.vars&&(c.stops==[])&&(c.knobs==[]))=true)
  (b2:((c.maps==(fn.params.toList++s.plain.varTypes P).any (P.mapsRec ·))&&(c.ifaces==(fn.params.toList++s.plain.varTypes P).any (P.ifacesRec ·))&&(c.mapsOut==P.mapsAmong fn.resultTypes.toList)&&
   (c.loops==(fn.params.toList++s.plain.varTypes P).any (P.loopsFrom ·))&&(c.wideKeys==(fn.params.toList++s.plain.varTypes P++fn.resultTypes.toList).any (P.wideKeysFrom ·)))=true)
  (b3:(s.vars.all (P.varReadable ·)&&fn.resultTypes.all (fun t=>P.readableRec t&&decide (t<P.types.size))&&(c.ifacesOut==fn.resultTypes.toList.any (P.ifacesRec ·))&&(c.loopsOut==fn.resultTypes.toList.any (P.loopsFrom ·))&&c.shortTexts.isNone)=true)
  (c1:(c.plainKeys==P.plainKeys)=true) (c2:(c.lifted==P.liftsFinal)=true) (c3:(P.make==some c.make)=true)
  (b4:((c.kinds==(if c.domain.isEmpty then [] else fn.params.toList.map fun t=>match P.underlying t with|some (.int k)=>some k|_=>none))&&(c.pinned==c.pinnedBy)&&
   (c.veiled==(fn.params.toList++s.plain.varTypes P++fn.resultTypes.toList).any (P.veiledRec ·))&&c.veiledFits P fn.params.toList (fn.params.toList++s.plain.varTypes P++fn.resultTypes.toList))=true):
  joinedFacts P f fn s c=true:=by
 simp only [qag] at p3 b1 b2 b3 b4;obtain ⟨q1,q2⟩:=p3;obtain ⟨⟨⟨⟨r1,r2⟩,r3⟩,r4⟩,r5⟩:=b1;obtain ⟨⟨⟨⟨s1,s2⟩,s3⟩,s4⟩,s5⟩:=b2;obtain ⟨⟨⟨⟨t1,t2⟩,t3⟩,t4⟩,t5⟩:=b3;obtain ⟨⟨⟨u1,u2⟩,u3⟩,u4⟩:=b4;simp only [joinedFacts,qag];exact ⟨⟨⟨⟨⟨⟨⟨⟨⟨⟨⟨⟨⟨⟨⟨⟨⟨⟨⟨⟨⟨⟨⟨⟨⟨⟨⟨⟨⟨⟨⟨r1,p1⟩,p2⟩,r2⟩,r3⟩,r4⟩,q1⟩,r5⟩,q2⟩,a1⟩,a2⟩,a3⟩,a4⟩,s1⟩,s2⟩,s3⟩,s4⟩,s5⟩,t1⟩,t2⟩,t3⟩,t4⟩,c1⟩,t5⟩,p4⟩,p5⟩,c2⟩,c3⟩,u1⟩,u2⟩,u3⟩,u4⟩
theorem dD:((Tryz.prog.stops==[])&&(Tryz.prog.stopKnobs==[]))=true:=by kernel_rfl
theorem dH:Tryz.prog.stopsHeard=true:=by kernel_rfl
theorem dI:Tryz.prog.mayEnter=true:=by kernel_rfl
theorem dG:true=Tryz.prog.looks []:=by kernel_rfl
theorem dP:Tryz.pinned.checked.prog.mainIs=some (true,"a75ad6bf4a49d30b3450983d732040967430057036402e2daa271303e339b221".toList):=by kernel_rfl
theorem dF:Tryz.prog.plainKeys=Rows.operatorPredicatesRow.plainKeys:=by kernel_rfl
theorem dn:Tryz.prog.liftsFinal=Rows.operatorPredicatesRow.lifted:=by kernel_rfl
theorem dO:(Tryz.prog.make==some Rows.operatorPredicatesRow.make)=true:=by kernel_rfl
theorem dw (h:P.funcs.any Func.goes=false)(f:FuncId):P.goes f=false:=by
 unfold Program.goes;rw [h,Bool.and_false,Bool.or_false,List.any_eq_false];intro g _ hg;cases e:P.funcs[g]? with
 |none=>rw [e] at hg;simp at hg
 |some fn=>rw [e] at hg;simp only [Option.any_some] at hg;obtain ⟨hlt,he⟩:=qaM.1 e;rw [Array.any_eq_false] at h;exact h g hlt (by rw [he];exact hg)
theorem bW (h:P.funcs.any Func.goes=false)(st:Start)(fn:String):P.goesAt st fn=false:=by
 unfold Program.goesAt Program.goesFrom;have e:(P.funcNamed fn).any P.goes=false:=by
  cases P.funcNamed fn with
  |none=>rfl
  |some f=>simp only [Option.any_some];exact dw h f
 rw [e,Bool.false_or];split;·rfl
 rw [List.any_eq_false];intro g _ hg;rw [dw h g] at hg;cases hg
theorem dK:Tryz.prog.funcs.any Func.goes=false:=by kernel_rfl
end Go.Proofs.YtonnphbfclaigaaGreatDoor
