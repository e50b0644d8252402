/-.-/
import Derived.Shelf.LaysC
import Derived.Shelf.LaysM
import Derived.Shelf.Lays
import Derived.Shelf.Strconv.Itoa1
import Derived.Shelf.Strconv.Itoa2
import Derived.Lib.Walk
import Derived.Lib.ItoaMem
import Derived.WalkKit
import Derived.BigCall
import Derived.BigGuard
import Derived.Test.YtkeefpkcepodeaaGreatDoorU43
import Derived.Test.YtkeefpkcepodeaaGreatDoorU44
set_option linter.all false
namespace Go.Proofs.YtkeefpkcepodeaaGreatDoor
open Go Go.Em Go.Ab
set_option maxRecDepth 100000
theorem gY (M:Nat)(hM:400<=M):Gam.pureD (callF tab ext M) 10 []=some (boolX true):=by obtain ⟨K,rfl⟩:∃K,M=K+400:=⟨M-400,by omega⟩;exact Xc K
theorem rY (nd nd':Nod)(hn:∀N,220<=N->Gam.pureD (callF tab ext N) 25 [.agg nd.cells]=some (.agg nd'.cells))(i:Inp)(N:Nat)(hN:230<=N):
  Gam.pureD (callF tab ext N) 8 [.agg nd.cells,.agg i.cells]=some (.tup [.agg nd'.cells,.agg (aJ i).cells]):=by
 obtain ⟨M,rfl⟩:=pR_ N;have W:=hn M (by omega);have Q:=Zw i M (by omega);generalize aJ i=i' at Q ⊢;obtain ⟨kd,tm,⟨se,sp⟩,⟨⟨e,p⟩,ms,o,⟨Y,Z,a3,a4,a5,a6⟩⟩,x,b1,b2,⟨c1,c2,c3,c4,c5,c6⟩⟩:=i;obtain ⟨a,l,⟨h,j⟩,⟨⟨q,U⟩,f,S,⟨F,H,J,L,O,P⟩⟩,V,m,n,⟨u,w,y,A,B,E⟩⟩:=i';exact puA [(7,.p (.agg nd'.cells)),(9,.p (.agg (Inp.mk a l ⟨h,j⟩ ⟨⟨q,U⟩,f,S,⟨F,H,J,L,O,P⟩⟩ V m n ⟨u,w,y,A,B,E⟩).cells))] (pf2 W Q) (.tup [.agg nd'.cells,.agg (Inp.mk a l ⟨h,j⟩ ⟨⟨q,U⟩,f,S,⟨F,H,J,L,O,P⟩⟩ V m n ⟨u,w,y,A,B,E⟩).cells])
theorem Y9 (cn:List X)(hcn:isNode cn)(i:Inp):∃(nd nd':Nod) (q:Ct.SL),cn=nd.cells/\(∀N,220<=N->Gam.pureD (callF tab ext N) 25 [.agg nd.cells]=some (.agg nd'.cells))/\q.okB/\
  ∃B,∀N,B<=N->Gam.pureD (callF tab ext N) 14 [.agg nd'.cells,.agg (aJ i).m.body.cells]=some q.list:=by
 obtain ⟨nd,nd',rfl,a,h⟩:=AP hcn;obtain ⟨v,l⟩:=rX i;obtain ⟨q,j,f⟩:=Ct.XU nd' a v;rw [<-l] at f;exact ⟨nd,nd',q,rfl,h,j,f⟩
theorem step0 (cn:List X)(hcn:isNode cn)(i:Inp):∃(nd nd':Nod) (q:Ct.SL),cn=nd.cells/\(∀N,220<=N->Gam.pureD (callF tab ext N) 25 [.agg nd.cells]=some (.agg nd'.cells))/\q.okB/\
  ∃B,∀N,B<=N->Gam.pureD (callF tab ext N) 9 [.agg nd'.cells,.agg [num 0,num 0,.sl false 10 []],.agg ({aJ i with kind:=1}:Inp).cells]=some (.agg (Ct.spO ⟨0,0,[]⟩ (aJ i).m nd'.name q).cells):=by
 obtain ⟨nd,nd',q,rfl,l,f,B,a⟩:=Y9 cn hcn i;have j:(aJ i).m.ok:=by rw [yE];exact rW i.m
 have h:=Ct.PZ nd' ⟨0,0,[]⟩ ⟨by simp,fun x n=>by cases n⟩ (aJ i) j (uJ i) q f B a;exact ⟨nd,nd',q,rfl,l,f,h⟩
theorem Oi (i:Inp)(hk:(i.kind==1)=true):({i with kind:=1}:Inp)=i:=by have:=eq_of_beq hk;rw [<-this]
end Go.Proofs.YtkeefpkcepodeaaGreatDoor
namespace Go.Proofs
section
open Go.Shelf
theorem cgS {α:Type}{a b:α}(h:a=b:=by kernel_rfl):some a=some b:=congrArg some h
def Tryz.tJ:Go.Shelf.Ren:=⟨fun|171=>82|243=>116|246=>172|283=>214|284=>215|285=>216|286=>217|129=>140|317=>261|318=>262|319=>263|320=>264|337=>291|338=>292|n=>n,fun|3=>3|9=>9|2=>2|4=>4|171=>282|0=>0|53=>218|37=>249|5=>5|173=>284|212=>322|51=>216|20=>20|213=>323|46=>176|232=>367|233=>368|n=>n,fun|17=>3|18=>6|19=>7|n=>n⟩
theorem Tryz.laysItoa:Go.Proofs.LaysM.n171 Tryz.prog Tryz.tJ:={
 mixed:=by kernel_rfl
 f129:=Tryz.func140.trans cgS
 f171:=Tryz.func82.trans cgS
 f243:=Tryz.func116.trans cgS
 f246:=Tryz.func172.trans cgS
 f283:=Tryz.func214.trans cgS
 f284:=Tryz.func215.trans cgS
 f285:=Tryz.func216.trans cgS
 f286:=Tryz.func217.trans cgS
 f317:=Tryz.func261.trans cgS
 f318:=Tryz.func262.trans cgS
 f319:=Tryz.func263.trans cgS
 f320:=Tryz.func264.trans cgS
 f337:=Tryz.func291.trans cgS
 f338:=Tryz.func292.trans cgS
 t0:=Tryz.underlying0
 a0:=Tryz.isAgg0
 z0:=Tryz.sizeOf0
 v0:=Tryz.zeroValue0
 t2:=Tryz.underlying2
 a2:=Tryz.isAgg2
 z2:=Tryz.sizeOf2
 v2:=Tryz.zeroValue2
 t3:=Tryz.underlying3
 a3:=Tryz.isAgg3
 z3:=Tryz.sizeOf3
 v3:=Tryz.zeroValue3
 t4:=Tryz.underlying4
 a4:=Tryz.isAgg4
 z4:=Tryz.sizeOf4
 v4:=Tryz.zeroValue4
 t5:=Tryz.underlying5
 a5:=Tryz.isAgg5
 z5:=Tryz.sizeOf5
 v5:=Tryz.zeroValue5
 t9:=Tryz.underlying9
 a9:=Tryz.isAgg9
 z9:=Tryz.sizeOf9
 v9:=Tryz.zeroValue9
 t20:=Tryz.underlying20
 a20:=Tryz.isAgg20
 z20:=Tryz.sizeOf20
 v20:=Tryz.zeroValue20
 t37:=Tryz.underlying249
 a37:=Tryz.isAgg249
 z37:=Tryz.sizeOf249
 v37:=Tryz.zeroValue249
 t46:=Tryz.underlying176
 a46:=Tryz.isAgg176
 z46:=Tryz.sizeOf176
 v46:=Tryz.zeroValue176
 t51:=Tryz.underlying216
 a51:=Tryz.isAgg216
 z51:=Tryz.sizeOf216
 v51:=Tryz.zeroValue216
 t53:=Tryz.underlying218
 a53:=Tryz.isAgg218
 z53:=Tryz.sizeOf218
 v53:=Tryz.zeroValue218
 t171:=Tryz.underlying282
 a171:=Tryz.isAgg282
 z171:=Tryz.sizeOf282
 v171:=Tryz.zeroValue282
 t173:=Tryz.underlying284
 a173:=Tryz.isAgg284
 z173:=Tryz.sizeOf284
 v173:=Tryz.zeroValue284
 t212:=Tryz.underlying322
 a212:=Tryz.isAgg322
 z212:=Tryz.sizeOf322
 v212:=Tryz.zeroValue322
 t213:=Tryz.underlying323
 a213:=Tryz.isAgg323
 z213:=Tryz.sizeOf323
 t232:=Tryz.underlying367
 a232:=Tryz.isAgg367
 z232:=Tryz.sizeOf367
 v232:=Tryz.zeroValue367
 t233:=Tryz.underlying368
 a233:=Tryz.isAgg368
 z233:=Tryz.sizeOf368
 v233:=Tryz.zeroValue368
 g17:=by kernel_rfl
 g18:=by kernel_rfl
 g19:=by kernel_rfl
 i0:=by kernel_rfl
 i2:=by kernel_rfl
 i3:=by kernel_rfl
 i4:=by kernel_rfl
 i5:=by kernel_rfl
 i9:=by kernel_rfl
 i20:=by kernel_rfl
 i37:=by kernel_rfl
 i46:=by kernel_rfl
 i51:=by kernel_rfl
 i53:=by kernel_rfl
 i171:=by kernel_rfl
 i173:=by kernel_rfl
 i212:=by kernel_rfl
 i232:=by kernel_rfl
 i233:=by kernel_rfl
 m17:=by kernel_rfl
 m18:=by kernel_rfl
 m19:=by kernel_rfl}
def Tryz.l7:Go.Shelf.Ren:=⟨fun|197=>299|260=>308|n=>n,fun|9=>9|21=>21|3=>3|4=>4|5=>5|105=>358|119=>278|0=>0|46=>176|139=>281|138=>280|n=>n,fun|3=>1|4=>2|n=>n⟩
theorem Tryz.zjo:Go.Proofs.Lays.n197 Tryz.prog Tryz.l7:={
 mixed:=by kernel_rfl
 f197:=Tryz.func299.trans cgS
 f260:=Tryz.func308.trans cgS
 t0:=Tryz.underlying0
 a0:=Tryz.isAgg0
 z0:=Tryz.sizeOf0
 v0:=Tryz.zeroValue0
 t3:=Tryz.underlying3
 a3:=Tryz.isAgg3
 z3:=Tryz.sizeOf3
 v3:=Tryz.zeroValue3
 t4:=Tryz.underlying4
 a4:=Tryz.isAgg4
 z4:=Tryz.sizeOf4
 v4:=Tryz.zeroValue4
 t5:=Tryz.underlying5
 a5:=Tryz.isAgg5
 z5:=Tryz.sizeOf5
 v5:=Tryz.zeroValue5
 t9:=Tryz.underlying9
 a9:=Tryz.isAgg9
 z9:=Tryz.sizeOf9
 v9:=Tryz.zeroValue9
 t21:=Tryz.underlying21
 a21:=Tryz.isAgg21
 z21:=Tryz.sizeOf21
 v21:=Tryz.zeroValue21
 t46:=Tryz.underlying176
 a46:=Tryz.isAgg176
 z46:=Tryz.sizeOf176
 v46:=Tryz.zeroValue176
 t105:=Tryz.underlying358
 a105:=Tryz.isAgg358
 z105:=Tryz.sizeOf358
 v105:=Tryz.zeroValue358
 t119:=Tryz.underlying278
 a119:=Tryz.isAgg278
 z119:=Tryz.sizeOf278
 t138:=Tryz.underlying280
 a138:=Tryz.isAgg280
 z138:=Tryz.sizeOf280
 v138:=Tryz.zeroValue280
 t139:=Tryz.underlying281
 a139:=Tryz.isAgg281
 z139:=Tryz.sizeOf281
 v139:=Tryz.zeroValue281
 g3:=by kernel_rfl
 g4:=by kernel_rfl}
def Tryz.Fz:Go.Shelf.Ren:=⟨fun|105=>303|212=>311|99=>119|165=>312|166=>313|170=>314|169=>281|263=>318|264=>319|206=>177|240=>300|241=>320|276=>309|277=>322|n=>n,fun|9=>9|3=>3|4=>4|20=>20|0=>0|46=>176|109=>373|5=>5|72=>340|76=>199|51=>216|146=>350|53=>218|148=>379|70=>338|37=>249|75=>198|127=>353|164=>371|80=>250|n=>n,fun|n=>n⟩
theorem Tryz.FB:Go.Proofs.Lays.n105 Tryz.prog Tryz.Fz:={
 mixed:=by kernel_rfl
 f99:=Tryz.func119.trans cgS
 f105:=Tryz.func303.trans cgS
 f165:=Tryz.func312.trans cgS
 f166:=Tryz.func313.trans cgS
 f169:=Tryz.func281.trans cgS
 f170:=Tryz.func314.trans cgS
 f206:=Tryz.func177.trans cgS
 f212:=Tryz.func311.trans cgS
 f240:=Tryz.func300.trans cgS
 f241:=Tryz.func320.trans cgS
 f263:=Tryz.func318.trans cgS
 f264:=Tryz.func319.trans cgS
 f276:=Tryz.func309.trans cgS
 f277:=Tryz.func322.trans cgS
 t0:=Tryz.underlying0
 a0:=Tryz.isAgg0
 z0:=Tryz.sizeOf0
 v0:=Tryz.zeroValue0
 t3:=Tryz.underlying3
 a3:=Tryz.isAgg3
 z3:=Tryz.sizeOf3
 v3:=Tryz.zeroValue3
 t4:=Tryz.underlying4
 a4:=Tryz.isAgg4
 z4:=Tryz.sizeOf4
 v4:=Tryz.zeroValue4
 t5:=Tryz.underlying5
 a5:=Tryz.isAgg5
 z5:=Tryz.sizeOf5
 v5:=Tryz.zeroValue5
 t9:=Tryz.underlying9
 a9:=Tryz.isAgg9
 z9:=Tryz.sizeOf9
 v9:=Tryz.zeroValue9
 t20:=Tryz.underlying20
 a20:=Tryz.isAgg20
 z20:=Tryz.sizeOf20
 v20:=Tryz.zeroValue20
 t37:=Tryz.underlying249
 a37:=Tryz.isAgg249
 z37:=Tryz.sizeOf249
 v37:=Tryz.zeroValue249
 t46:=Tryz.underlying176
 a46:=Tryz.isAgg176
 z46:=Tryz.sizeOf176
 v46:=Tryz.zeroValue176
 t51:=Tryz.underlying216
 a51:=Tryz.isAgg216
 z51:=Tryz.sizeOf216
 v51:=Tryz.zeroValue216
 t53:=Tryz.underlying218
 a53:=Tryz.isAgg218
 z53:=Tryz.sizeOf218
 v53:=Tryz.zeroValue218
 t70:=Tryz.underlying338
 a70:=Tryz.isAgg338
 z70:=Tryz.sizeOf338
 v70:=Tryz.zeroValue338
 t72:=Tryz.underlying340
 a72:=Tryz.isAgg340
 z72:=Tryz.sizeOf340
 v72:=Tryz.zeroValue340
 t75:=Tryz.underlying198
 a75:=Tryz.isAgg198
 z75:=Tryz.sizeOf198
 v75:=Tryz.zeroValue198
 t76:=Tryz.underlying199
 a76:=Tryz.isAgg199
 z76:=Tryz.sizeOf199
 v76:=Tryz.zeroValue199
 t109:=Tryz.underlying373
 a109:=Tryz.isAgg373
 z109:=Tryz.sizeOf373
 v109:=Tryz.zeroValue373
 t127:=Tryz.underlying353
 a127:=Tryz.isAgg353
 z127:=Tryz.sizeOf353
 v127:=Tryz.zeroValue353
 t146:=Tryz.underlying350
 a146:=Tryz.isAgg350
 z146:=Tryz.sizeOf350
 v146:=Tryz.zeroValue350
 t148:=Tryz.underlying379
 a148:=Tryz.isAgg379
 z148:=Tryz.sizeOf379
 v148:=Tryz.zeroValue379
 t164:=Tryz.underlying371
 a164:=Tryz.isAgg371
 z164:=Tryz.sizeOf371
 v164:=Tryz.zeroValue371}
def Tryz.Jd:Go.Shelf.Ren:=⟨fun|169=>281|n=>n,fun|70=>338|9=>9|0=>0|72=>340|37=>249|127=>353|3=>3|5=>5|n=>n,fun|n=>n⟩
theorem Tryz.zos:Go.Proofs.Lays.n169 Tryz.prog Tryz.Jd:={
 mixed:=by kernel_rfl
 f169:=Tryz.func281.trans cgS
 t0:=Tryz.underlying0
 a0:=Tryz.isAgg0
 z0:=Tryz.sizeOf0
 v0:=Tryz.zeroValue0
 t3:=Tryz.underlying3
 a3:=Tryz.isAgg3
 z3:=Tryz.sizeOf3
 v3:=Tryz.zeroValue3
 t9:=Tryz.underlying9
 a9:=Tryz.isAgg9
 z9:=Tryz.sizeOf9
 v9:=Tryz.zeroValue9
 t37:=Tryz.underlying249
 a37:=Tryz.isAgg249
 z37:=Tryz.sizeOf249
 v37:=Tryz.zeroValue249
 t70:=Tryz.underlying338
 a70:=Tryz.isAgg338
 z70:=Tryz.sizeOf338
 v70:=Tryz.zeroValue338
 t72:=Tryz.underlying340
 a72:=Tryz.isAgg340
 z72:=Tryz.sizeOf340
 v72:=Tryz.zeroValue340
 t127:=Tryz.underlying353
 a127:=Tryz.isAgg353
 z127:=Tryz.sizeOf353
 v127:=Tryz.zeroValue353}
def Tryz.tK:Go.Shelf.Ren:=⟨fun|172=>121|244=>179|245=>180|247=>223|279=>224|280=>225|281=>226|282=>227|287=>267|316=>268|171=>82|205=>269|321=>295|322=>296|243=>116|246=>172|283=>214|284=>215|285=>216|286=>217|129=>140|317=>261|318=>262|319=>263|320=>264|337=>291|338=>292|n=>n,fun|9=>9|3=>3|75=>198|76=>199|4=>4|5=>5|167=>289|37=>249|0=>0|85=>290|2=>2|168=>292|53=>218|175=>324|46=>176|210=>327|127=>353|145=>356|143=>354|21=>21|171=>282|173=>284|212=>322|51=>216|20=>20|213=>323|232=>367|233=>368|80=>250|n=>n,fun|15=>4|16=>5|17=>3|18=>6|19=>7|n=>n⟩
theorem Tryz.laysAtoi:Go.Proofs.LaysC.n172 Tryz.prog Tryz.tK:={
 mixed:=by kernel_rfl
 f129:=Tryz.func140.trans cgS
 f171:=Tryz.func82.trans cgS
 f172:=Tryz.func121.trans cgS
 f205:=Tryz.func269.trans cgS
 f243:=Tryz.func116.trans cgS
 f244:=Tryz.func179.trans cgS
 f245:=Tryz.func180.trans cgS
 f246:=Tryz.func172.trans cgS
 f247:=Tryz.func223.trans cgS
 f279:=Tryz.func224.trans cgS
 f280:=Tryz.func225.trans cgS
 f281:=Tryz.func226.trans cgS
 f282:=Tryz.func227.trans cgS
 f283:=Tryz.func214.trans cgS
 f284:=Tryz.func215.trans cgS
 f285:=Tryz.func216.trans cgS
 f286:=Tryz.func217.trans cgS
 f287:=Tryz.func267.trans cgS
 f316:=Tryz.func268.trans cgS
 f317:=Tryz.func261.trans cgS
 f318:=Tryz.func262.trans cgS
 f319:=Tryz.func263.trans cgS
 f320:=Tryz.func264.trans cgS
 f321:=Tryz.func295.trans cgS
 f322:=Tryz.func296.trans cgS
 f337:=Tryz.func291.trans cgS
 f338:=Tryz.func292.trans cgS
 t0:=Tryz.underlying0
 a0:=Tryz.isAgg0
 z0:=Tryz.sizeOf0
 v0:=Tryz.zeroValue0
 t2:=Tryz.underlying2
 a2:=Tryz.isAgg2
 z2:=Tryz.sizeOf2
 v2:=Tryz.zeroValue2
 t3:=Tryz.underlying3
 a3:=Tryz.isAgg3
 z3:=Tryz.sizeOf3
 v3:=Tryz.zeroValue3
 t4:=Tryz.underlying4
 a4:=Tryz.isAgg4
 z4:=Tryz.sizeOf4
 v4:=Tryz.zeroValue4
 t5:=Tryz.underlying5
 a5:=Tryz.isAgg5
 z5:=Tryz.sizeOf5
 v5:=Tryz.zeroValue5
 t9:=Tryz.underlying9
 a9:=Tryz.isAgg9
 z9:=Tryz.sizeOf9
 v9:=Tryz.zeroValue9
 t20:=Tryz.underlying20
 a20:=Tryz.isAgg20
 z20:=Tryz.sizeOf20
 v20:=Tryz.zeroValue20
 t21:=Tryz.underlying21
 a21:=Tryz.isAgg21
 z21:=Tryz.sizeOf21
 v21:=Tryz.zeroValue21
 t37:=Tryz.underlying249
 a37:=Tryz.isAgg249
 z37:=Tryz.sizeOf249
 v37:=Tryz.zeroValue249
 t46:=Tryz.underlying176
 a46:=Tryz.isAgg176
 z46:=Tryz.sizeOf176
 v46:=Tryz.zeroValue176
 t51:=Tryz.underlying216
 a51:=Tryz.isAgg216
 z51:=Tryz.sizeOf216
 v51:=Tryz.zeroValue216
 t53:=Tryz.underlying218
 a53:=Tryz.isAgg218
 z53:=Tryz.sizeOf218
 v53:=Tryz.zeroValue218
 t75:=Tryz.underlying198
 a75:=Tryz.isAgg198
 z75:=Tryz.sizeOf198
 v75:=Tryz.zeroValue198
 t76:=Tryz.underlying199
 a76:=Tryz.isAgg199
 z76:=Tryz.sizeOf199
 v76:=Tryz.zeroValue199
 t85:=Tryz.underlying290
 a85:=Tryz.isAgg290
 z85:=Tryz.sizeOf290
 v85:=Tryz.zeroValue290
 t127:=Tryz.underlying353
 a127:=Tryz.isAgg353
 z127:=Tryz.sizeOf353
 v127:=Tryz.zeroValue353
 t143:=Tryz.underlying354
 a143:=Tryz.isAgg354
 z143:=Tryz.sizeOf354
 v143:=Tryz.zeroValue354
 t145:=Tryz.underlying356
 a145:=Tryz.isAgg356
 z145:=Tryz.sizeOf356
 v145:=Tryz.zeroValue356
 t167:=Tryz.underlying289
 a167:=Tryz.isAgg289
 z167:=Tryz.sizeOf289
 v167:=Tryz.zeroValue289
 t168:=Tryz.underlying292
 a168:=Tryz.isAgg292
 z168:=Tryz.sizeOf292
 v168:=Tryz.zeroValue292
 t171:=Tryz.underlying282
 a171:=Tryz.isAgg282
 z171:=Tryz.sizeOf282
 v171:=Tryz.zeroValue282
 t173:=Tryz.underlying284
 a173:=Tryz.isAgg284
 z173:=Tryz.sizeOf284
 v173:=Tryz.zeroValue284
 t175:=Tryz.underlying324
 a175:=Tryz.isAgg324
 z175:=Tryz.sizeOf324
 v175:=Tryz.zeroValue324
 t210:=Tryz.underlying327
 a210:=Tryz.isAgg327
 z210:=Tryz.sizeOf327
 v210:=Tryz.zeroValue327
 t212:=Tryz.underlying322
 a212:=Tryz.isAgg322
 z212:=Tryz.sizeOf322
 v212:=Tryz.zeroValue322
 t213:=Tryz.underlying323
 a213:=Tryz.isAgg323
 z213:=Tryz.sizeOf323
 t232:=Tryz.underlying367
 a232:=Tryz.isAgg367
 z232:=Tryz.sizeOf367
 v232:=Tryz.zeroValue367
 t233:=Tryz.underlying368
 a233:=Tryz.isAgg368
 z233:=Tryz.sizeOf368
 v233:=Tryz.zeroValue368
 g15:=by kernel_rfl
 g16:=by kernel_rfl
 g17:=by kernel_rfl
 g18:=by kernel_rfl
 g19:=by kernel_rfl
 t80:=Tryz.underlying250
 a80:=Tryz.isAgg250
 z80:=Tryz.sizeOf250
 v80:=Tryz.zeroValue250
 i0:=by kernel_rfl
 i2:=by kernel_rfl
 i3:=by kernel_rfl
 i4:=by kernel_rfl
 i5:=by kernel_rfl
 i9:=by kernel_rfl
 i20:=by kernel_rfl
 i21:=by kernel_rfl
 i37:=by kernel_rfl
 i46:=by kernel_rfl
 i51:=by kernel_rfl
 i53:=by kernel_rfl
 i75:=by kernel_rfl
 i76:=by kernel_rfl
 i80:=by kernel_rfl
 i85:=by kernel_rfl
 i127:=by kernel_rfl
 i143:=by kernel_rfl
 i145:=by kernel_rfl
 i167:=by kernel_rfl
 i168:=by kernel_rfl
 i171:=by kernel_rfl
 i173:=by kernel_rfl
 i175:=by kernel_rfl
 i210:=by kernel_rfl
 i212:=by kernel_rfl
 i232:=by kernel_rfl
 i233:=by kernel_rfl
 m15:=by kernel_rfl
 m16:=by kernel_rfl
 m17:=by kernel_rfl
 m18:=by kernel_rfl
 m19:=by kernel_rfl
 c0:=by kernel_rfl
 c2:=by kernel_rfl
 c3:=by kernel_rfl
 c4:=by kernel_rfl
 c5:=by kernel_rfl
 c9:=by kernel_rfl
 c20:=by kernel_rfl
 c21:=by kernel_rfl
 c37:=by kernel_rfl
 c46:=by kernel_rfl
 c51:=by kernel_rfl
 c53:=by kernel_rfl
 c75:=by kernel_rfl
 c76:=by kernel_rfl
 c80:=by kernel_rfl
 c85:=by kernel_rfl
 c127:=by kernel_rfl
 c143:=by kernel_rfl
 c145:=by kernel_rfl
 c167:=by kernel_rfl
 c168:=by kernel_rfl
 c171:=by kernel_rfl
 c173:=by kernel_rfl
 c175:=by kernel_rfl
 c210:=by kernel_rfl
 c212:=by kernel_rfl
 c213:=by kernel_rfl
 c232:=by kernel_rfl
 c233:=by kernel_rfl}
def Tryz.Jc:Go.Shelf.Ren:=⟨fun|168=>280|240=>300|242=>301|276=>309|278=>310|n=>n,fun|70=>338|21=>21|3=>3|75=>198|0=>0|72=>340|37=>249|4=>4|164=>371|51=>216|5=>5|46=>176|80=>250|9=>9|n=>n,fun|n=>n⟩
theorem Tryz.yV:Go.Proofs.Lays.n168 Tryz.prog Tryz.Jc:={
 mixed:=by kernel_rfl
 f168:=Tryz.func280.trans cgS
 f240:=Tryz.func300.trans cgS
 f242:=Tryz.func301.trans cgS
 f276:=Tryz.func309.trans cgS
 f278:=Tryz.func310.trans cgS
 t0:=Tryz.underlying0
 a0:=Tryz.isAgg0
 z0:=Tryz.sizeOf0
 v0:=Tryz.zeroValue0
 t3:=Tryz.underlying3
 a3:=Tryz.isAgg3
 z3:=Tryz.sizeOf3
 v3:=Tryz.zeroValue3
 t4:=Tryz.underlying4
 a4:=Tryz.isAgg4
 z4:=Tryz.sizeOf4
 v4:=Tryz.zeroValue4
 t5:=Tryz.underlying5
 a5:=Tryz.isAgg5
 z5:=Tryz.sizeOf5
 v5:=Tryz.zeroValue5
 t9:=Tryz.underlying9
 a9:=Tryz.isAgg9
 z9:=Tryz.sizeOf9
 v9:=Tryz.zeroValue9
 t20:=Tryz.underlying20
 a20:=Tryz.isAgg20
 z20:=Tryz.sizeOf20
 v20:=Tryz.zeroValue20
 t21:=Tryz.underlying21
 a21:=Tryz.isAgg21
 z21:=Tryz.sizeOf21
 v21:=Tryz.zeroValue21
 t37:=Tryz.underlying249
 a37:=Tryz.isAgg249
 z37:=Tryz.sizeOf249
 v37:=Tryz.zeroValue249
 t46:=Tryz.underlying176
 a46:=Tryz.isAgg176
 z46:=Tryz.sizeOf176
 v46:=Tryz.zeroValue176
 t51:=Tryz.underlying216
 a51:=Tryz.isAgg216
 z51:=Tryz.sizeOf216
 v51:=Tryz.zeroValue216
 t70:=Tryz.underlying338
 a70:=Tryz.isAgg338
 z70:=Tryz.sizeOf338
 v70:=Tryz.zeroValue338
 t72:=Tryz.underlying340
 a72:=Tryz.isAgg340
 z72:=Tryz.sizeOf340
 v72:=Tryz.zeroValue340
 t75:=Tryz.underlying198
 a75:=Tryz.isAgg198
 z75:=Tryz.sizeOf198
 v75:=Tryz.zeroValue198
 t164:=Tryz.underlying371
 a164:=Tryz.isAgg371
 z164:=Tryz.sizeOf371
 v164:=Tryz.zeroValue371}
def Tryz.QC:Go.Shelf.Ren:=⟨fun|219=>222|217=>265|225=>221|224=>220|267=>266|266=>293|314=>294|n=>n,fun|9=>9|3=>3|4=>4|5=>5|46=>176|146=>350|51=>216|n=>n,fun|1=>0|n=>n⟩
theorem Tryz.zjn:Go.Proofs.Lays.n219 Tryz.prog Tryz.QC:={
 mixed:=by kernel_rfl
 f217:=Tryz.func265.trans cgS
 f219:=Tryz.func222.trans cgS
 f224:=Tryz.func220.trans cgS
 f225:=Tryz.func221.trans cgS
 f266:=Tryz.func293.trans cgS
 f267:=Tryz.func266.trans cgS
 f314:=Tryz.func294.trans cgS
 t3:=Tryz.underlying3
 a3:=Tryz.isAgg3
 z3:=Tryz.sizeOf3
 v3:=Tryz.zeroValue3
 t4:=Tryz.underlying4
 a4:=Tryz.isAgg4
 z4:=Tryz.sizeOf4
 v4:=Tryz.zeroValue4
 t5:=Tryz.underlying5
 a5:=Tryz.isAgg5
 z5:=Tryz.sizeOf5
 v5:=Tryz.zeroValue5
 t9:=Tryz.underlying9
 a9:=Tryz.isAgg9
 z9:=Tryz.sizeOf9
 v9:=Tryz.zeroValue9
 t46:=Tryz.underlying176
 a46:=Tryz.isAgg176
 z46:=Tryz.sizeOf176
 v46:=Tryz.zeroValue176
 t51:=Tryz.underlying216
 a51:=Tryz.isAgg216
 z51:=Tryz.sizeOf216
 v51:=Tryz.zeroValue216
 t146:=Tryz.underlying350
 a146:=Tryz.isAgg350
 z146:=Tryz.sizeOf350
 v146:=Tryz.zeroValue350
 g1:=by kernel_rfl}
def Tryz.FC:Go.Shelf.Ren:=⟨fun|153=>118|152=>173|226=>174|227=>175|228=>176|137=>218|119=>219|224=>220|225=>221|217=>265|266=>293|n=>n,fun|9=>9|3=>3|4=>4|5=>5|21=>21|117=>245|116=>244|0=>0|46=>176|124=>288|n=>n,fun|n=>n⟩
theorem Tryz.QD:Go.Proofs.Lays.n153 Tryz.prog Tryz.FC:={
 mixed:=by kernel_rfl
 f119:=Tryz.func219.trans cgS
 f137:=Tryz.func218.trans cgS
 f152:=Tryz.func173.trans cgS
 f153:=Tryz.func118.trans cgS
 f217:=Tryz.func265.trans cgS
 f224:=Tryz.func220.trans cgS
 f225:=Tryz.func221.trans cgS
 f226:=Tryz.func174.trans cgS
 f227:=Tryz.func175.trans cgS
 f228:=Tryz.func176.trans cgS
 f266:=Tryz.func293.trans cgS
 t0:=Tryz.underlying0
 a0:=Tryz.isAgg0
 z0:=Tryz.sizeOf0
 v0:=Tryz.zeroValue0
 t3:=Tryz.underlying3
 a3:=Tryz.isAgg3
 z3:=Tryz.sizeOf3
 v3:=Tryz.zeroValue3
 t4:=Tryz.underlying4
 a4:=Tryz.isAgg4
 z4:=Tryz.sizeOf4
 v4:=Tryz.zeroValue4
 t5:=Tryz.underlying5
 a5:=Tryz.isAgg5
 z5:=Tryz.sizeOf5
 v5:=Tryz.zeroValue5
 t9:=Tryz.underlying9
 a9:=Tryz.isAgg9
 z9:=Tryz.sizeOf9
 v9:=Tryz.zeroValue9
 t21:=Tryz.underlying21
 a21:=Tryz.isAgg21
 z21:=Tryz.sizeOf21
 v21:=Tryz.zeroValue21
 t46:=Tryz.underlying176
 a46:=Tryz.isAgg176
 z46:=Tryz.sizeOf176
 v46:=Tryz.zeroValue176
 t116:=Tryz.underlying244
 a116:=Tryz.isAgg244
 z116:=Tryz.sizeOf244
 t117:=Tryz.underlying245
 a117:=Tryz.isAgg245
 z117:=Tryz.sizeOf245
 v117:=Tryz.zeroValue245
 t124:=Tryz.underlying288
 a124:=Tryz.isAgg288
 z124:=Tryz.sizeOf288
 v124:=Tryz.zeroValue288}
end
section
open Go.Shelf Go.RowKit Go.Sort Go.Lib
variable {P:Program} {ρ:Ren}
def Po (g:Nat)(w:World):Prop:=∀i,i<20->w.cell? ⟨g,i,none⟩=some (.int .u64 ((10^i:Nat):Int))
theorem Po.alloc {g:Nat}{w:World}(h:Po g w)(o:Obj):Po g (w.alloc o):=fun i a=>by
 have:=h i a;have f:g≠w.heap.size:=fun e=>by simp_all[World.cell?]
 unfold World.cell? at this ⊢;unfold World.alloc<;>simp_all[Array.getElem?_push]
set_option maxHeartbeats 2000000 in
set_option maxRecDepth 100000 in
theorem zhq.internal_strconv_numDigits (L:LaysM.n284 P ρ)(u:Nat)(h1:1<=u)(h2:u<18446744073709551616)(w:World)
  (htab:Po (ρ.g 17) w):
  Calls P (ρ.f 284) #[.int .u64 u] w fun e w'=>e=.returned (.int .i64 (Lib.nDigits u))/\w'=w:=by
 have mixed:=L.mixed;have t53:=L.t53;have a53:=L.a53;have z53:=L.z53;have v53:=L.v53;have t3:=L.t3;have a3:=L.a3;have z3:=L.z3;have v3:=L.v3;have t212:=L.t212;have a212:=L.a212;have z212:=L.z212;have v212:=L.v212;have t0:=L.t0;have a0:=L.a0;have z0:=L.z0;have v0:=L.v0;have t4:=L.t4;have a4:=L.a4;have z4:=L.z4;have v4:=L.v4;have e129:∀args w,(callFunc (ρ.f 129) args).run P w=.ok (.enter (ρ.f 129) args) w:=enters_of L.f129 (by kernel_rfl) rfl;have e317:∀args w,(callFunc (ρ.f 317) args).run P w=.ok (.enter (ρ.f 317) args) w:=enters_of L.f317 (by kernel_rfl) rfl;have e318:∀args w,(callFunc (ρ.f 318) args).run P w=.ok (.enter (ρ.f 318) args) w:=enters_of L.f318 (by kernel_rfl) rfl;obtain ⟨hnd,h19⟩:=Lib.numDigits_eq u h1 h2;have hL:=Lib.bitLen_le u 64 (Nat.le_refl _) h2;have hcell:w.cell? ⟨(ρ.g 17),Lib.l10 (Lib.bitLen u),none⟩=some (.int .u64 ((10^Lib.l10 (Lib.bitLen u):Nat):Int)):=by exact htab _ (by omega)
 have hto:((u:Int)).toNat=u:=by omega
 generalize hq:Lib.l10 (Lib.bitLen u)=q at hnd h19 hcell;generalize hT:10^q=T at hnd hcell;have h20:q<20:=by omega
 have Hnd:=Lib.hid hnd;clear hnd htab
 go_enter L.f284,Body.n284_ntmps ρ
 go_wp2_with (first
  |(go_at_fn (ρ.f 129);refine (Any.bits_Len64 {L with} _ _ (by omega) (by omega)).mono ?_;rintro e w' ⟨rfl,rfl⟩)
  |(go_at_fn (ρ.f 317);refine (Any.internal_strconv_log10Pow2 {L with} _ (by grind) _).mono ?_;rintro e w' ⟨rfl,rfl⟩)
  |(go_at_fn (ρ.f 318);refine (Any.internal_strconv_bool2_int {L with} _ _).mono ?_;rintro e w' ⟨rfl,rfl⟩))
 all_goals go_ret
 all_goals (
  refine ⟨?_,rfl⟩;have hnd:=Hnd.out
  congr 2
  split at hnd<;>simp_all<;>omega)
set_option maxHeartbeats 6400000 in
set_option maxRecDepth 100000 in
theorem zhq.internal_strconv_FormatInt_10 (L:LaysM.n246 P ρ)(n:Int)(h0:-9223372036854775808<=n)(h1:n<=9223372036854775807)(w:World)
  (htab:Po (ρ.g 17) w):
  Calls P (ρ.f 246) #[.int .i64 n,.int .i64 10] w fun e w'=>e=.returned (.string ⟨(Lib.itoa n).toArray⟩)/\∃k os,w'=grow (w.drewN k) os:=by
 have mixed:=L.mixed;have t2:=L.t2;have a2:=L.a2;have z2:=L.z2;have v2:=L.v2;have t3:=L.t3;have a3:=L.a3;have z3:=L.z3;have v3:=L.v3;have t9:=L.t9;have a9:=L.a9;have z9:=L.z9;have v9:=L.v9;have t4:=L.t4;have a4:=L.a4;have z4:=L.z4;have v4:=L.v4;have t171:=L.t171;have a171:=L.a171;have z171:=L.z171;have v171:=L.v171;have t0:=L.t0;have a0:=L.a0;have z0:=L.z0;have v0:=L.v0;have t53:=L.t53;have a53:=L.a53;have z53:=L.z53;have v53:=L.v53;have t37:=L.t37;have a37:=L.a37;have z37:=L.z37;have v37:=L.v37;have t5:=L.t5;have a5:=L.a5;have z5:=L.z5;have v5:=L.v5;have t173:=L.t173;have a173:=L.a173;have z173:=L.z173;have v173:=L.v173;have e283:∀args w,(callFunc (ρ.f 283) args).run P w=.ok (.enter (ρ.f 283) args) w:=enters_of L.f283 (by kernel_rfl) rfl;have e284:∀args w,(callFunc (ρ.f 284) args).run P w=.ok (.enter (ρ.f 284) args) w:=enters_of L.f284 (by kernel_rfl) rfl;have e285:∀args w,(callFunc (ρ.f 285) args).run P w=.ok (.enter (ρ.f 285) args) w:=enters_of L.f285 (by kernel_rfl) rfl;by_cases hs:0<=n/\n<100
 ·
  obtain ⟨i,rfl⟩:∃i:Nat,n=i:=⟨n.toNat,by omega⟩;have hi:i<100:=by omega
  go_enter L.f246,Body.n246_ntmps ρ
  go_wp2_with (go_at_fn (ρ.f 283);refine (Any.internal_strconv_small {L with} i hi _).mono ?_;rintro e w' ⟨rfl,rfl⟩)
  go_ret
  refine ⟨?_,0,#[],by simp [World.drewN_zero]⟩;rw [Lib.itoa_nonneg];rfl
 by_cases hneg:n<0
 ·obtain ⟨u,rfl⟩:∃u:Nat,n=-(u:Int):=⟨n.natAbs,by omega⟩;have hu1:1<=u:=by omega
  have hu64:u<18446744073709551616:=by omega
  have hnd20:Lib.nDigits u<=20:=by have:=Lib.numDigits_eq u hu1 hu64;split at this<;>omega
  have hwr:IntKind.u64.wrap (-IntKind.u64.wrap (-(u:Int)))=(u:Int):=by rw [IntKind.wrap_u64,IntKind.wrap_u64];omega
  have hb3:Lib.nDigits u<=23:=by omega
  have hal:P.arrayLen (ρ.t 171)=24:=by simp [Program.arrayLen,L.t171]
  have hsl1:∀W,(Instr.sliceAt (ρ.t 171) (.pointer (some ⟨w.heap.size,0,none⟩)) (some (.int .i64 1)) (some (.int .i64 (1+(Lib.nDigits u:Int)))) none).run P W=.ok (.slice (some ⟨w.heap.size,1,none⟩) (Lib.nDigits u) 23) W:=fun W=>by
   rw [run_sliceAt_array_lh W (ρ.t 171) ⟨w.heap.size,0,none⟩ (by grind[Program.elem]) .i64 .i64 1 (1+(Lib.nDigits u:Int)) (by omega) (by omega) (by grind)]
   go_simp
   omega
  have hH0:=Lib.holds_zero w (ρ.t 171) (Lib.nDigits u) (by omega);have hfmt:=Any.internal_strconv_formatBase10 {L with} w.heap.size 1 23 u (Array.replicate (Lib.nDigits u) 0) (w.alloc (.cells Lib.zeros24 (ρ.t 171))) hH0 (by grind[Lib.lt_pow_nDigits]) hu64 (by grind);rw [Array.size_replicate] at hfmt;have HH0:=Lib.hid hH0;clear hH0 hal
  go_enter L.f246,Body.n246_ntmps ρ
  go_wp2_with (first
   |(go_at_fn (ρ.f 284);refine (zhq.internal_strconv_numDigits {L with} u hu1 hu64 _ (htab.alloc _)).mono ?_;rintro e w' ⟨rfl,rfl⟩))
  go_at_fn (ρ.f 285)
  refine hfmt.mono ?_
  rintro e w' ⟨rfl,k,v',dk,rfl,hF⟩
  have hc0:((putRow (fun (b:UInt8)=>Value.int .u8 (b.toNat:Int)) (w.alloc (.cells Lib.zeros24 (ρ.t 171))) w.heap.size 1 dk).drewN k).cell? ⟨w.heap.size,0,none⟩=some (.int .u8 0):=by rw [World.cell?_drewN,cell?_putRow_other _ _ _ _ _ _ (Or.inr (Or.inl (Nat.zero_lt_one))),World.cell?_alloc_new];exact Lib.zeros24_at 0 (by omega)
  have hf0:((putRow (fun (b:UInt8)=>Value.int .u8 (b.toNat:Int)) (w.alloc (.cells Lib.zeros24 (ρ.t 171))) w.heap.size 1 dk).drewN k).frozen? ⟨w.heap.size,0,none⟩=false:=by rw [World.frozen?_drewN,frozen?_putRow];exact World.frozen?_alloc_new _ _ _ _
  have hal:P.arrayLen (ρ.t 171)=24:=by simp [Program.arrayLen,L.t171]
  have hsl2:∀W,(Instr.sliceAt (ρ.t 171) (.pointer (some ⟨w.heap.size,0,none⟩)) none (some (.int .i64 (1+(Lib.nDigits u:Int)))) none).run P W=.ok (.slice (some ⟨w.heap.size,0,none⟩) (1+Lib.nDigits u) 24) W:=fun W=>by
   rw [run_sliceAt_array_h W (ρ.t 171) ⟨w.heap.size,0,none⟩ (by simp_all[Program.elem]) .i64 (1+(Lib.nDigits u:Int)) (by omega) (by omega)]
   go_simp
   omega
  clear hal;have hcv:(convert (ρ.t 37) (ρ.t 9) (.slice (some ⟨w.heap.size,0,none⟩) (1+Lib.nDigits u) 24)).run P (((putRow (fun (b:UInt8)=>Value.int .u8 (b.toNat:Int)) (w.alloc (.cells Lib.zeros24 (ρ.t 171))) w.heap.size 1 dk).drewN k).setCell ⟨w.heap.size,0,none⟩ (.int .u8 45))=.ok (.string ⟨(45::Lib.decDigits u).toArray⟩) (((putRow (fun (b:UInt8)=>Value.int .u8 (b.toNat:Int)) (w.alloc (.cells Lib.zeros24 (ρ.t 171))) w.heap.size 1 dk).drewN k).setCell ⟨w.heap.size,0,none⟩ (.int .u8 45)):=by
   have h:=run_convert_bytes_back (P:=P) (((putRow (fun (b:UInt8)=>Value.int .u8 (b.toNat:Int)) (w.alloc (.cells Lib.zeros24 (ρ.t 171))) w.heap.size 1 dk).drewN k).setCell ⟨w.heap.size,0,none⟩ (.int .u8 45)) (ρ.t 37) (ρ.t 9) (ρ.t 5) ⟨w.heap.size,0,none⟩ 24 (45::Lib.decDigits u) L.t37 L.t5 L.t9 (fun j hj=>by
    rw [Lib.add_plain];cases j with
    |zero=>simp_all[World.cell?_setCell_same]
    |succ i=>
     have hi:i<(Lib.decDigits u).length:=by simpa using hj
     rw [World.cell?_setCell_other _ _ _ _ (by simp),List.getElem_cons_succ,Lib.row_is_numeral hF i hi,World.cell?_drewN,show 0+(i+1)=1+i by omega];exact cell?_putRow (fun (b:UInt8)=>Value.int .u8 (b.toNat:Int)) _ w.heap.size 1 _ dk HH0.out (by rw [hF.size,Array.size_replicate]) i (by rw [hF.size]<;>simp_all[Lib.decDigits_length]))
   rw [List.length_cons,Lib.decDigits_length,Nat.add_comm] at h;exact h
  go_wp2
  go_ret
  obtain ⟨os,eo⟩:=Lib.fin_neg w (.cells Lib.zeros24 (ρ.t 171)) dk k (.int .u8 45);refine ⟨?_,k,os,eo⟩;rw [Lib.itoa_neg u hu1];rfl
 obtain ⟨u,rfl⟩:∃u:Nat,n=u:=⟨n.toNat,by omega⟩;have hu1:1<=u:=by omega
 have hu64:u<18446744073709551616:=by omega
 have hnd20:Lib.nDigits u<=20:=by have:=Lib.numDigits_eq u hu1 hu64;split at this<;>omega
 have hb3:Lib.nDigits u<=23:=by omega
 have hal:P.arrayLen (ρ.t 171)=24:=by simp [Program.arrayLen,L.t171]
 have hsl1:∀W,(Instr.sliceAt (ρ.t 171) (.pointer (some ⟨w.heap.size,0,none⟩)) (some (.int .i64 1)) (some (.int .i64 (1+(Lib.nDigits u:Int)))) none).run P W=.ok (.slice (some ⟨w.heap.size,1,none⟩) (Lib.nDigits u) 23) W:=fun W=>by
  rw [run_sliceAt_array_lh W (ρ.t 171) ⟨w.heap.size,0,none⟩ (by grind[Program.elem]) .i64 .i64 1 (1+(Lib.nDigits u:Int)) (by omega) (by omega) (by grind)]
  go_simp
  omega
 have hH0:=Lib.holds_zero w (ρ.t 171) (Lib.nDigits u) (by omega);have hfmt:=Any.internal_strconv_formatBase10 {L with} w.heap.size 1 23 u (Array.replicate (Lib.nDigits u) 0) (w.alloc (.cells Lib.zeros24 (ρ.t 171))) hH0 (by grind[Lib.lt_pow_nDigits]) hu64 (by grind);rw [Array.size_replicate] at hfmt;have HH0:=Lib.hid hH0;clear hH0 hal
 go_enter L.f246,Body.n246_ntmps ρ
 go_wp2_with (first
  |(go_at_fn (ρ.f 284);refine (zhq.internal_strconv_numDigits {L with} u hu1 hu64 _ (htab.alloc _)).mono ?_;rintro e w' ⟨rfl,rfl⟩))
 go_at_fn (ρ.f 285)
 refine hfmt.mono ?_
 rintro e w' ⟨rfl,k,v',dk,rfl,hF⟩
 have hcv:(convert (ρ.t 37) (ρ.t 9) (.slice (some ⟨w.heap.size,1,none⟩) (Lib.nDigits u) 23)).run P ((putRow (fun (b:UInt8)=>Value.int .u8 (b.toNat:Int)) (w.alloc (.cells Lib.zeros24 (ρ.t 171))) w.heap.size 1 dk).drewN k)=.ok (.string ⟨(Lib.decDigits u).toArray⟩) ((putRow (fun (b:UInt8)=>Value.int .u8 (b.toNat:Int)) (w.alloc (.cells Lib.zeros24 (ρ.t 171))) w.heap.size 1 dk).drewN k):=by have h:=run_convert_bytes_back (P:=P) ((putRow (fun (b:UInt8)=>Value.int .u8 (b.toNat:Int)) (w.alloc (.cells Lib.zeros24 (ρ.t 171))) w.heap.size 1 dk).drewN k) (ρ.t 37) (ρ.t 9) (ρ.t 5) ⟨w.heap.size,1,none⟩ 23 (Lib.decDigits u) L.t37 L.t5 L.t9 (fun j hj=>by rw [Lib.row_is_numeral hF j hj,Lib.add_plain,World.cell?_drewN];exact cell?_putRow (fun (b:UInt8)=>Value.int .u8 (b.toNat:Int)) _ w.heap.size 1 _ dk HH0.out (by rw [hF.size,Array.size_replicate]) j (by rw [hF.size]<;>simp_all[Lib.decDigits_length]));rw [Lib.decDigits_length] at h;exact h
 go_wp2
 go_ret
 obtain ⟨os,eo⟩:=Lib.fin_pos w (.cells Lib.zeros24 (ρ.t 171)) dk k;refine ⟨?_,k,os,eo⟩;rw [Lib.itoa_nonneg];rfl
set_option maxRecDepth 100000 in
theorem zhq.internal_strconv_Itoa (L:LaysM.n243 P ρ)(n:Int)(h0:-9223372036854775808<=n)(h1:n<=9223372036854775807)(w:World)
  (htab:Po (ρ.g 17) w):
  Calls P (ρ.f 243) #[.int .i64 n] w fun e w'=>e=.returned (.string ⟨(Lib.itoa n).toArray⟩)/\∃k os,w'=grow (w.drewN k) os:=by
 have mixed:=L.mixed;have t3:=L.t3;have a3:=L.a3;have z3:=L.z3;have v3:=L.v3;have t9:=L.t9;have a9:=L.a9;have z9:=L.z9;have v9:=L.v9;have t2:=L.t2;have a2:=L.a2;have z2:=L.z2;have v2:=L.v2;have e246:∀args w,(callFunc (ρ.f 246) args).run P w=.ok (.enter (ρ.f 246) args) w:=enters_of L.f246 (by kernel_rfl) rfl
 go_enter L.f243,Body.n243_ntmps ρ
 go_wp2_with (go_at_fn (ρ.f 246);refine (zhq.internal_strconv_FormatInt_10 {L with} n h0 h1 _ htab).mono ?_;rintro e w' ⟨rfl,k,os,rfl⟩)
 go_ret
 exact ⟨rfl,k,os,rfl⟩
set_option maxRecDepth 100000 in
theorem zhq.strconv_Itoa (L:LaysM.n171 P ρ)(n:Int)(h0:-9223372036854775808<=n)(h1:n<=9223372036854775807)(w:World)
  (htab:Po (ρ.g 17) w):
  Calls P (ρ.f 171) #[.int .i64 n] w fun e w'=>e=.returned (.string ⟨(Lib.itoa n).toArray⟩)/\∃k os,w'=grow (w.drewN k) os:=by
 have mixed:=L.mixed;have t3:=L.t3;have a3:=L.a3;have z3:=L.z3;have v3:=L.v3;have t9:=L.t9;have a9:=L.a9;have z9:=L.z9;have v9:=L.v9;have e243:∀args w,(callFunc (ρ.f 243) args).run P w=.ok (.enter (ρ.f 243) args) w:=enters_of L.f243 (by kernel_rfl) rfl
 go_enter L.f171,Body.n171_ntmps ρ
 go_wp2_with (go_at_fn (ρ.f 243);refine (zhq.internal_strconv_Itoa {L with} n h0 h1 _ htab).mono ?_;rintro e w' ⟨rfl,k,os,rfl⟩)
 go_ret
 exact ⟨rfl,k,os,rfl⟩
end
end Go.Proofs
