/-.-/
import Derived.Test.YtcbeoccmflnejaaGreatDoorU14q1
import Derived.Test.YtcbeoccmflnejaaGreatDoorU18q1q2
import Derived.Test.YtcbeoccmflnejaaGreatDoorU32q1
import Derived.Test.YtcbeoccmflnejaaGreatDoorU33
import Derived.Test.YtcbeoccmflnejaaGreatDoorU34q1q2
import Derived.Test.YtcbeoccmflnejaaGreatDoorU34q1q3
import Derived.Test.YtcbeoccmflnejaaGreatDoorU38
import Derived.Test.YtcbeoccmflnejaaGreatDoorU38q1q3
import Derived.Test.YtcbeoccmflnejaaGreatDoorU38q1q2
set_option linter.all false
namespace Go.Proofs.YtcbeoccmflnejaaGreatDoor
open Go.Em
set_option maxRecDepth 100000
theorem zbo {s:Stt}(h:s.ok):(UG s).ok:=⟨h,by simp [UG],(fun x a=>by cases a),by simp [UG],(fun x a=>by cases a),by simp [UG],(fun x a=>by cases a)⟩
open Go Go.Em Go.Ab
end Go.Proofs.YtcbeoccmflnejaaGreatDoor
namespace Go.Proofs.YtcbeoccmflnejaaGreatDoor
open Go Go.Em Go.Ab
set_option maxRecDepth 100000
open Go.Em
namespace Ct
theorem mO (nd:Nod)(s:Stt)(m:Msg)(r:qaX)(N:Nat):Gam.pureD (callF tab ext (N+20)) 44 [.agg nd.cells,.agg s.cells,.agg m.cells,strX r]=some (.agg (fC true s m nd.name r)):=by obtain ⟨⟨e,p⟩,q,o,⟨f,h,j,l,n,u⟩⟩:=m;obtain ⟨a,b,w⟩:=s;exact puA [] pf0 (.agg ([num a,num b,.sl false 10 (ak w),.sl true 11 [],.sl true 11 [],.sl true 6 [[num e,.sl false 1 (aC p),num 4,strX nd.name,.sl true 2 [],strX r]],.sl true 10 [(Msg.mk ⟨e,p⟩ q o (.mk f h j l n u)).cells]]))
end Ct
namespace Ct
section
variable (nd:Nod) (s:Stt) (i:Inp) (v k:Val) (e0:Int) (K:Nat) (r:qaX) (x:Slt)
 (mg:Gam.pureD (callF tab ext (K+320)) 43 [.agg i.m.body.cells]=some (.agg v.cells))
section
variable (o io:Int) (et:qaX) (vs es:qaW) (h25:decide (Int.ofNat nd.exprs.length>0)=true) (h29:nd.exprs[(Int.ofNat 0).toNat]?=some (gu o io et vs es))
 (iI:Gam.pureD (callF tab ext (K+320)) 42 [.agg (gu o io et vs es),.agg v.cells]=some (.tup [.agg k.cells,num e0]))
include mg h25 h29 iI
theorem zgG (h39:(e0==0)=false)(h45:(e0 !=0)=true)(XV:Gam.pureD (callF tab ext (K+320)) 37 [num e0]=some (strX r))(Ji:Gam.pureD (callF tab ext (K+320)) 44 [.agg nd.cells,.agg s.cells,.agg i.m.cells,strX r]=some (.agg (fC true s i.m nd.name r))):
  Gam.pureD (callF tab ext (K+321)) 11 [.agg nd.cells,.agg s.cells,.agg ({i with kind:=1}:Inp).cells]=some (.agg (fC true s i.m nd.name r)):=by
 obtain ⟨kd,tm,⟨se,sp⟩,⟨⟨u,p⟩,w,A,⟨a,f,h,j,l,q⟩⟩,y,V,W,⟨Y,Z,c3,c4,c5,c6⟩⟩:=i;obtain ⟨n,t,B⟩:=s;obtain ⟨E,F,H,J,L,M⟩:=k;obtain ⟨N,O,P,Q,S,U⟩:=v;exact puA [(25,.b true),(28,.e (gu o io et vs es)),(34,.p (.agg (Val.mk N O P Q S U).cells)),(35,.p (.tup [.agg (Val.mk E F H J L M).cells,num e0])),(39,.b false),(45,.b true),(50,.p (strX r)),(51,.p (.agg (fC true (Stt.mk n t B) (Msg.mk ⟨u,p⟩ w A (.mk a f h j l q)) nd.name r)))] (pf8 h25 h29 mg iI h39 h45 XV Ji) (.agg (fC true (Stt.mk n t B) (Msg.mk ⟨u,p⟩ w A (.mk a f h j l q)) nd.name r))
variable (h39:(e0==0)=true)
include h39
theorem zgI (jT:Gam.pureD (callF tab ext (K+320)) 26 [.agg k.cells]=some (boolX true))(XV:Gam.pureD (callF tab ext (K+320)) 37 [num 19]=some (strX r))(Ji:Gam.pureD (callF tab ext (K+320)) 44 [.agg nd.cells,.agg s.cells,.agg i.m.cells,strX r]=some (.agg (fC true s i.m nd.name r))):
  Gam.pureD (callF tab ext (K+321)) 11 [.agg nd.cells,.agg s.cells,.agg ({i with kind:=1}:Inp).cells]=some (.agg (fC true s i.m nd.name r)):=by
 obtain ⟨kd,tm,⟨se,sp⟩,⟨⟨u,p⟩,w,A,⟨a,f,h,j,l,q⟩⟩,y,V,W,⟨Y,Z,c3,c4,c5,c6⟩⟩:=i;obtain ⟨n,t,B⟩:=s;obtain ⟨E,F,H,J,L,M⟩:=k;obtain ⟨N,O,P,Q,S,U⟩:=v;exact puA [(25,.b true),(28,.e (gu o io et vs es)),(34,.p (.agg (Val.mk N O P Q S U).cells)),(35,.p (.tup [.agg (Val.mk E F H J L M).cells,num e0])),(39,.b true),(42,.p (boolX true)),(50,.p (strX r)),(51,.p (.agg (fC true (Stt.mk n t B) (Msg.mk ⟨u,p⟩ w A (.mk a f h j l q)) nd.name r)))] (pf8 h25 h29 mg iI h39 jT XV Ji) (.agg (fC true (Stt.mk n t B) (Msg.mk ⟨u,p⟩ w A (.mk a f h j l q)) nd.name r))
variable (jT:Gam.pureD (callF tab ext (K+320)) 26 [.agg k.cells]=some (boolX false)) (h45:(e0 !=0)=false)
include jT h45
theorem zgH (zi:Gam.pureD (callF tab ext (K+320)) 38 [.agg s.cells,.agg k.cells]=some (.tup [.agg x.cells,boolX true]))(Ji:Gam.pureD (callF tab ext (K+320)) 44 [.agg nd.cells,.agg s.cells,.agg i.m.cells,strX jr]=some (.agg (fC true s i.m nd.name jr))):
  Gam.pureD (callF tab ext (K+321)) 11 [.agg nd.cells,.agg s.cells,.agg ({i with kind:=1}:Inp).cells]=some (.agg (fC true s i.m nd.name jr)):=by
 obtain ⟨kd,tm,⟨se,sp⟩,⟨⟨u,p⟩,w,A,⟨a,f,h,j,l,q⟩⟩,y,b1,b2,⟨c1,c2,c3,c4,c5,c6⟩⟩:=i;obtain ⟨n,t,B⟩:=s;obtain ⟨E,F,H,J,L,M⟩:=k;obtain ⟨N,O,P,Q,S,U⟩:=v;obtain ⟨⟨V,W,Y,Z,x5,x6⟩,xn,xt,xi,xv⟩:=x;exact puA [(25,.b true),(28,.e (gu o io et vs es)),(34,.p (.agg (Val.mk N O P Q S U).cells)),(35,.p (.tup [.agg (Val.mk E F H J L M).cells,num e0])),(39,.b true),(42,.p (boolX false)),(45,.b false),(55,.p (.tup [.agg (Slt.mk ⟨V,W,Y,Z,x5,x6⟩ xn xt xi xv).cells,boolX true])),(62,.p (.agg (fC true (Stt.mk n t B) (Msg.mk ⟨u,p⟩ w A (.mk a f h j l q)) nd.name jr)))] (pf9 h25 h29 mg iI h39 jT h45 zi Ji) (.agg (fC true (Stt.mk n t B) (Msg.mk ⟨u,p⟩ w A (.mk a f h j l q)) nd.name jr))
variable (zi:Gam.pureD (callF tab ext (K+320)) 38 [.agg s.cells,.agg k.cells]=some (.tup [.agg x.cells,boolX false]))
include zi
theorem zdB (h65:decide (s.n>=1099511627776)=true)(Ji:Gam.pureD (callF tab ext (K+320)) 44 [.agg nd.cells,.agg s.cells,.agg i.m.cells,strX gG]=some (.agg (fC true s i.m nd.name gG))):
  Gam.pureD (callF tab ext (K+321)) 11 [.agg nd.cells,.agg s.cells,.agg ({i with kind:=1}:Inp).cells]=some (.agg (fC true s i.m nd.name gG)):=by
 obtain ⟨kd,tm,⟨se,sp⟩,⟨⟨u,p⟩,w,A,⟨a,f,h,j,l,q⟩⟩,y,b1,b2,⟨c1,c2,c3,c4,c5,c6⟩⟩:=i;obtain ⟨n,t,B⟩:=s;obtain ⟨E,F,H,J,L,M⟩:=k;obtain ⟨N,O,P,Q,S,U⟩:=v;obtain ⟨⟨V,W,Y,Z,x5,x6⟩,xn,xt,xi,xv⟩:=x;exact puA [(25,.b true),(28,.e (gu o io et vs es)),(34,.p (.agg (Val.mk N O P Q S U).cells)),(35,.p (.tup [.agg (Val.mk E F H J L M).cells,num e0])),(39,.b true),(42,.p (boolX false)),(45,.b false),(55,.p (.tup [.agg (Slt.mk ⟨V,W,Y,Z,x5,x6⟩ xn xt xi xv).cells,boolX false])),(65,.b true),(69,.p (.agg (fC true (Stt.mk n t B) (Msg.mk ⟨u,p⟩ w A (.mk a f h j l q)) nd.name gG)))] (pf10 h25 h29 mg iI h39 jT h45 zi h65 Ji) (.agg (fC true (Stt.mk n t B) (Msg.mk ⟨u,p⟩ w A (.mk a f h j l q)) nd.name gG))
theorem zdA (w:Int)(hw:IntKind.i64.wrap (s.n+1)=w)(h65:decide (s.n>=1099511627776)=false)(P T:qaW)(UK:Gam.pureD (callF tab ext (K+320)) 45 [.agg s.cells,.agg (newS k w).cells]=some (.tup [.agg [num s.n,num s.t,.sl false 10 P],num 0]))
  (hl:∀τ,canon 0 τ=some (ddH nd w s.t i.m.cells true P)->∃fst,run (callF tab ext (K+320)) 0 (K+320) (.loop (loopAt 11 0)) τ=some (.exit 0,ddE nd w s.t i.m.cells fst T)):
  Gam.pureD (callF tab ext (K+321)) 11 [.agg nd.cells,.agg s.cells,.agg ({i with kind:=1}:Inp).cells]=some (.agg [num w,num s.t,.sl false 10 T,.sl false 11 [num 0::i.m.cells],.sl false 11 [],.sl false 6 [],.sl false 10 []]):=by
 obtain ⟨kd,tm,⟨se,sp⟩,⟨⟨u,p⟩,A,B,⟨a,f,h,j,l,q⟩⟩,y,b1,b2,⟨c1,c2,c3,c4,c5,c6⟩⟩:=i;obtain ⟨n,t,ss⟩:=s;obtain ⟨E,F,H,J,L,M⟩:=k;obtain ⟨v1,v2,v3,v4,v5,v6⟩:=v;obtain ⟨⟨N,O,Q,S,U,V⟩,Y,Z,W,xv⟩:=x;dsimp only at hw h65 UK hl;obtain ⟨fst,hl⟩:=hl ⟨[(3,.ptr 0 0 0),(6,.ptr 3 0 0),(7,.ptr 4 0 0),(13,.ptr 8 0 0)],[.var nd.cells,.var (Stt.mk n t ss).cells,.var (Inp.mk 1 tm ⟨se,sp⟩ (Msg.mk ⟨u,p⟩ A B (.mk a f h j l q)) y b1 b2 ⟨c1,c2,c3,c4,c5,c6⟩).cells,.var [num 0,num 0,.sl true 10 [],.sl true 11 [],.sl true 11 [],.sl true 6 [],.sl true 10 []],.var (Msg.mk ⟨u,p⟩ A B (.mk a f h j l q)).cells,.var (gu o io et vs es),.var (Val.mk E F H J L M).cells,.var (Slt.mk ⟨N,O,Q,S,U,V⟩ Y Z W xv).cells,.var [num w,num t,.sl false 10 P]]⟩ (by kernel_rfl);cases fst with
 |true=>exact puB [(25,.b true),(28,.e (gu o io et vs es)),(34,.p (.agg (Val.mk v1 v2 v3 v4 v5 v6).cells)),(35,.p (.tup [.agg (Val.mk E F H J L M).cells,num e0])),(39,.b true),(42,.p (boolX false)),(45,.b false),(55,.p (.tup [.agg (Slt.mk ⟨N,O,Q,S,U,V⟩ Y Z W xv).cells,boolX false])),(65,.b false),(75,.i w),(77,.p (.tup [.agg [num n,num t,.sl false 10 P],num 0])),(88,.i w)] [(.exit 0,ddE nd w t (Msg.mk ⟨u,p⟩ A B (.mk a f h j l q)).cells true T)] (pf13 h25 h29 mg iI h39 jT h45 zi h65 hw UK hw hl) (.agg [num w,num t,.sl false 10 T,.sl true 11 [num 0::(Msg.mk ⟨u,p⟩ A B (.mk a f h j l q)).cells],.sl true 11 [],.sl true 6 [],.sl true 10 []])
 |false=>refine pure_of [(25,.b true),(28,.e (gu o io et vs es)),(34,.p (.agg (Val.mk v1 v2 v3 v4 v5 v6).cells)),(35,.p (.tup [.agg (Val.mk E F H J L M).cells,num e0])),(39,.b true),(42,.p (boolX false)),(45,.b false),(55,.p (.tup [.agg (Slt.mk ⟨N,O,Q,S,U,V⟩ Y Z W xv).cells,boolX false])),(65,.b false),(75,.i w),(77,.p (.tup [.agg [num n,num t,.sl false 10 P],num 0])),(88,.i w)] [(.exit 0,ddE nd w t (Msg.mk ⟨u,p⟩ A B (.mk a f h j l q)).cells false T)] (pf13 h25 h29 mg iI h39 jT h45 zi h65 hw UK hw hl) (x:=.agg [num w,num t,.bs 0 0 T.length,.sl true 11 [num 0::(Msg.mk ⟨u,p⟩ A B (.mk a f h j l q)).cells],.sl true 11 [],.sl true 6 [],.sl true 10 []]) (bx:=[.row 10 T]) (by kernel_rfl) ?_;have h6:=jc (bx:=[.row 10 T]) (i:=0) (n:=T.length) rfl rfl;simp_all [X.data,dataL,num]
end
section
variable (h25:decide (Int.ofNat nd.exprs.length>0)=false)
 (iI:Gam.pureD (callF tab ext (K+320)) 42 [.agg (gu 0 0 ⟨#[]⟩ [] []),.agg v.cells]=some (.tup [.agg k.cells,num e0]))
include mg h25 iI
theorem zgD (h39:(e0==0)=false)(h45:(e0 !=0)=true)(XV:Gam.pureD (callF tab ext (K+320)) 37 [num e0]=some (strX r))(Ji:Gam.pureD (callF tab ext (K+320)) 44 [.agg nd.cells,.agg s.cells,.agg i.m.cells,strX r]=some (.agg (fC true s i.m nd.name r))):
  Gam.pureD (callF tab ext (K+321)) 11 [.agg nd.cells,.agg s.cells,.agg ({i with kind:=1}:Inp).cells]=some (.agg (fC true s i.m nd.name r)):=by
 obtain ⟨kd,tm,⟨se,sp⟩,⟨⟨u,p⟩,w,A,⟨a,f,h,j,l,q⟩⟩,y,V,W,⟨Y,Z,c3,c4,c5,c6⟩⟩:=i;obtain ⟨n,t,B⟩:=s;obtain ⟨E,F,H,J,L,M⟩:=k;obtain ⟨N,O,P,Q,S,U⟩:=v;exact puA [(25,.b false),(34,.p (.agg (Val.mk N O P Q S U).cells)),(35,.p (.tup [.agg (Val.mk E F H J L M).cells,num e0])),(39,.b false),(45,.b true),(50,.p (strX r)),(51,.p (.agg (fC true (Stt.mk n t B) (Msg.mk ⟨u,p⟩ w A (.mk a f h j l q)) nd.name r)))] (pf7 h25 mg iI h39 h45 XV Ji) (.agg (fC true (Stt.mk n t B) (Msg.mk ⟨u,p⟩ w A (.mk a f h j l q)) nd.name r))
variable (h39:(e0==0)=true)
include h39
theorem zgF (jT:Gam.pureD (callF tab ext (K+320)) 26 [.agg k.cells]=some (boolX true))(XV:Gam.pureD (callF tab ext (K+320)) 37 [num 19]=some (strX r))(Ji:Gam.pureD (callF tab ext (K+320)) 44 [.agg nd.cells,.agg s.cells,.agg i.m.cells,strX r]=some (.agg (fC true s i.m nd.name r))):
  Gam.pureD (callF tab ext (K+321)) 11 [.agg nd.cells,.agg s.cells,.agg ({i with kind:=1}:Inp).cells]=some (.agg (fC true s i.m nd.name r)):=by
 obtain ⟨kd,tm,⟨se,sp⟩,⟨⟨u,p⟩,w,A,⟨a,f,h,j,l,q⟩⟩,y,V,W,⟨Y,Z,c3,c4,c5,c6⟩⟩:=i;obtain ⟨n,t,B⟩:=s;obtain ⟨E,F,H,J,L,M⟩:=k;obtain ⟨N,O,P,Q,S,U⟩:=v;exact puA [(25,.b false),(34,.p (.agg (Val.mk N O P Q S U).cells)),(35,.p (.tup [.agg (Val.mk E F H J L M).cells,num e0])),(39,.b true),(42,.p (boolX true)),(50,.p (strX r)),(51,.p (.agg (fC true (Stt.mk n t B) (Msg.mk ⟨u,p⟩ w A (.mk a f h j l q)) nd.name r)))] (pf7 h25 mg iI h39 jT XV Ji) (.agg (fC true (Stt.mk n t B) (Msg.mk ⟨u,p⟩ w A (.mk a f h j l q)) nd.name r))
variable (jT:Gam.pureD (callF tab ext (K+320)) 26 [.agg k.cells]=some (boolX false)) (h45:(e0 !=0)=false)
include jT h45
theorem zgE (zi:Gam.pureD (callF tab ext (K+320)) 38 [.agg s.cells,.agg k.cells]=some (.tup [.agg x.cells,boolX true]))(Ji:Gam.pureD (callF tab ext (K+320)) 44 [.agg nd.cells,.agg s.cells,.agg i.m.cells,strX jr]=some (.agg (fC true s i.m nd.name jr))):
  Gam.pureD (callF tab ext (K+321)) 11 [.agg nd.cells,.agg s.cells,.agg ({i with kind:=1}:Inp).cells]=some (.agg (fC true s i.m nd.name jr)):=by
 obtain ⟨kd,tm,⟨se,sp⟩,⟨⟨u,p⟩,w,A,⟨a,f,h,j,l,q⟩⟩,y,b1,b2,⟨c1,c2,c3,c4,c5,c6⟩⟩:=i;obtain ⟨n,t,B⟩:=s;obtain ⟨E,F,H,J,L,M⟩:=k;obtain ⟨N,O,P,Q,S,U⟩:=v;obtain ⟨⟨V,W,Y,Z,x5,x6⟩,xn,xt,xi,xv⟩:=x;exact puA [(25,.b false),(34,.p (.agg (Val.mk N O P Q S U).cells)),(35,.p (.tup [.agg (Val.mk E F H J L M).cells,num e0])),(39,.b true),(42,.p (boolX false)),(45,.b false),(55,.p (.tup [.agg (Slt.mk ⟨V,W,Y,Z,x5,x6⟩ xn xt xi xv).cells,boolX true])),(62,.p (.agg (fC true (Stt.mk n t B) (Msg.mk ⟨u,p⟩ w A (.mk a f h j l q)) nd.name jr)))] (pf8 h25 mg iI h39 jT h45 zi Ji) (.agg (fC true (Stt.mk n t B) (Msg.mk ⟨u,p⟩ w A (.mk a f h j l q)) nd.name jr))
variable (zi:Gam.pureD (callF tab ext (K+320)) 38 [.agg s.cells,.agg k.cells]=some (.tup [.agg x.cells,boolX false]))
include zi
theorem zdz (h65:decide (s.n>=1099511627776)=true)(Ji:Gam.pureD (callF tab ext (K+320)) 44 [.agg nd.cells,.agg s.cells,.agg i.m.cells,strX gG]=some (.agg (fC true s i.m nd.name gG))):
  Gam.pureD (callF tab ext (K+321)) 11 [.agg nd.cells,.agg s.cells,.agg ({i with kind:=1}:Inp).cells]=some (.agg (fC true s i.m nd.name gG)):=by
 obtain ⟨kd,tm,⟨se,sp⟩,⟨⟨u,p⟩,w,A,⟨a,f,h,j,l,q⟩⟩,y,b1,b2,⟨c1,c2,c3,c4,c5,c6⟩⟩:=i;obtain ⟨n,t,B⟩:=s;obtain ⟨E,F,H,J,L,M⟩:=k;obtain ⟨N,O,P,Q,S,U⟩:=v;obtain ⟨⟨V,W,Y,Z,x5,x6⟩,xn,xt,xi,xv⟩:=x;exact puA [(25,.b false),(34,.p (.agg (Val.mk N O P Q S U).cells)),(35,.p (.tup [.agg (Val.mk E F H J L M).cells,num e0])),(39,.b true),(42,.p (boolX false)),(45,.b false),(55,.p (.tup [.agg (Slt.mk ⟨V,W,Y,Z,x5,x6⟩ xn xt xi xv).cells,boolX false])),(65,.b true),(69,.p (.agg (fC true (Stt.mk n t B) (Msg.mk ⟨u,p⟩ w A (.mk a f h j l q)) nd.name gG)))] (pf9 h25 mg iI h39 jT h45 zi h65 Ji) (.agg (fC true (Stt.mk n t B) (Msg.mk ⟨u,p⟩ w A (.mk a f h j l q)) nd.name gG))
theorem zdy (w:Int)(hw:IntKind.i64.wrap (s.n+1)=w)(h65:decide (s.n>=1099511627776)=false)(P T:qaW)(UK:Gam.pureD (callF tab ext (K+320)) 45 [.agg s.cells,.agg (newS k w).cells]=some (.tup [.agg [num s.n,num s.t,.sl false 10 P],num 0]))
  (hl:∀τ,canon 0 τ=some (ddH nd w s.t i.m.cells true P)->∃fst,run (callF tab ext (K+320)) 0 (K+320) (.loop (loopAt 11 0)) τ=some (.exit 0,ddE nd w s.t i.m.cells fst T)):
  Gam.pureD (callF tab ext (K+321)) 11 [.agg nd.cells,.agg s.cells,.agg ({i with kind:=1}:Inp).cells]=some (.agg [num w,num s.t,.sl false 10 T,.sl false 11 [num 0::i.m.cells],.sl false 11 [],.sl false 6 [],.sl false 10 []]):=by
 obtain ⟨kd,tm,⟨se,sp⟩,⟨⟨u,p⟩,A,B,⟨a,f,h,j,l,q⟩⟩,y,b1,b2,⟨c1,c2,c3,c4,c5,c6⟩⟩:=i;obtain ⟨n,t,ss⟩:=s;obtain ⟨E,F,H,J,L,M⟩:=k;obtain ⟨v1,v2,v3,v4,v5,v6⟩:=v;obtain ⟨⟨N,O,Q,S,U,V⟩,Y,Z,W,xv⟩:=x;dsimp only at hw h65 UK hl;obtain ⟨fst,hl⟩:=hl ⟨[(3,.ptr 0 0 0),(6,.ptr 3 0 0),(7,.ptr 4 0 0),(13,.ptr 8 0 0)],[.var nd.cells,.var (Stt.mk n t ss).cells,.var (Inp.mk 1 tm ⟨se,sp⟩ (Msg.mk ⟨u,p⟩ A B (.mk a f h j l q)) y b1 b2 ⟨c1,c2,c3,c4,c5,c6⟩).cells,.var [num 0,num 0,.sl true 10 [],.sl true 11 [],.sl true 11 [],.sl true 6 [],.sl true 10 []],.var (Msg.mk ⟨u,p⟩ A B (.mk a f h j l q)).cells,.var [num 0,num 0,noText,.sl true 6 [],.sl true 5 []],.var (Val.mk E F H J L M).cells,.var (Slt.mk ⟨N,O,Q,S,U,V⟩ Y Z W xv).cells,.var [num w,num t,.sl false 10 P]]⟩ (by kernel_rfl);cases fst with
 |true=>exact puB [(25,.b false),(34,.p (.agg (Val.mk v1 v2 v3 v4 v5 v6).cells)),(35,.p (.tup [.agg (Val.mk E F H J L M).cells,num e0])),(39,.b true),(42,.p (boolX false)),(45,.b false),(55,.p (.tup [.agg (Slt.mk ⟨N,O,Q,S,U,V⟩ Y Z W xv).cells,boolX false])),(65,.b false),(75,.i w),(77,.p (.tup [.agg [num n,num t,.sl false 10 P],num 0])),(88,.i w)] [(.exit 0,ddE nd w t (Msg.mk ⟨u,p⟩ A B (.mk a f h j l q)).cells true T)] (pf12 h25 mg iI h39 jT h45 zi h65 hw UK hw hl) (.agg [num w,num t,.sl false 10 T,.sl true 11 [num 0::(Msg.mk ⟨u,p⟩ A B (.mk a f h j l q)).cells],.sl true 11 [],.sl true 6 [],.sl true 10 []])
 |false=>refine pure_of [(25,.b false),(34,.p (.agg (Val.mk v1 v2 v3 v4 v5 v6).cells)),(35,.p (.tup [.agg (Val.mk E F H J L M).cells,num e0])),(39,.b true),(42,.p (boolX false)),(45,.b false),(55,.p (.tup [.agg (Slt.mk ⟨N,O,Q,S,U,V⟩ Y Z W xv).cells,boolX false])),(65,.b false),(75,.i w),(77,.p (.tup [.agg [num n,num t,.sl false 10 P],num 0])),(88,.i w)] [(.exit 0,ddE nd w t (Msg.mk ⟨u,p⟩ A B (.mk a f h j l q)).cells false T)] (pf12 h25 mg iI h39 jT h45 zi h65 hw UK hw hl) (x:=.agg [num w,num t,.bs 0 0 T.length,.sl true 11 [num 0::(Msg.mk ⟨u,p⟩ A B (.mk a f h j l q)).cells],.sl true 11 [],.sl true 6 [],.sl true 10 []]) (bx:=[.row 10 T]) (by kernel_rfl) ?_;have h6:=jc (bx:=[.row 10 T]) (i:=0) (n:=T.length) rfl rfl;simp_all [X.data,dataL,num]
end
end
end Ct
namespace Ct
theorem kF (nd:Nod)(hs:nd.small){N:Nat}{v:List X}{q:Option X}(iI:Gam.pureD (callF tab ext N) 42 [.agg (qx nd 0),.agg v]=q){P:Prop}
  (hA:∀o io et vs es,decide (Int.ofNat nd.exprs.length>0)=true->nd.exprs[(Int.ofNat 0).toNat]?=some (gu o io et vs es)->Gam.pureD (callF tab ext N) 42 [.agg (gu o io et vs es),.agg v]=q->P)
  (hB:decide (Int.ofNat nd.exprs.length>0)=false->Gam.pureD (callF tab ext N) 42 [.agg (gu 0 0 ⟨#[]⟩ [] []),.agg v]=q->P):P:=by
 obtain ⟨o,i,h,vs,es,f,_⟩:=Jz nd hs 0;cases a:nd.exprs with
 |nil=>
  have e:qx nd 0=gu 0 0 ⟨#[]⟩ [] []:=by unfold qx;rw [a];rfl
  rw [e] at iI;exact hB (by rw [a];rfl) iI
 |cons y r=>
  have e:qx nd 0=y:=by unfold qx;rw [a];rfl
  rw [e] at iI f;subst f;exact hA o i h vs es (by rw [a];exact decide_eq_true (by simp only [qat,qaq];omega)) (by rw [a];rfl) iI
theorem QI (s:Stt)(m:Msg)(hm:m.ok)(j:Nat)(M:Nat)(hM:190300<=M)(h1:Gam.pureD (callF tab ext (M+100)) 15 [.agg s.cells,.agg s.cells]=some (boolX true)):Gam.pureD (callF tab ext (M+101)) 9 [.agg (G6 s m j),.agg (G6 s m j)]=some (boolX true):=by
 have f:=pV (M+100) m hm (by omega);have h:(Int.ofNat j !=Int.ofNat j)=false:=by simp
 clear hM hm;obtain ⟨⟨e,p⟩,A,o,⟨l,n,q,u,w,y⟩⟩:=m;obtain ⟨a,b,B⟩:=s;exact puA [(10,.p (boolX true)),(40,.b false),(54,.p (boolX true))] (pf3 h1 h f) (boolX true)
def Agree (nd:Nod)(s:Stt)(i:Inp):Prop:=∃(n t n' t':Int) (ss os fs ls ss' os' fs' ls':qaW) (B:Nat),∀N,B<=N->
 Gam.pureD (callF tab ext N) 10 [.agg nd.cells,.agg s.cells,.agg ({i with kind:=1}:Inp).cells]=some (.agg (ocC n t ss os fs ls))/\Gam.pureD (callF tab ext N) 11 [.agg nd.cells,.agg s.cells,.agg ({i with kind:=1}:Inp).cells]=some (.agg (ocC n' t' ss' os' fs' ls'))/\
 Gam.pureD (callF tab ext N) 9 [.agg (ocC n t ss os fs ls),.agg (ocC n' t' ss' os' fs' ls')]=some (boolX true)
theorem qI (nd:Nod)(s:Stt)(hs:s.ok)(i:Inp)(hm:i.m.ok)(r:qaX)(B:Nat)(h:∀K,B<=K->Gam.pureD (callF tab ext (K+321)) 10 [.agg nd.cells,.agg s.cells,.agg ({i with kind:=1}:Inp).cells]=some (.agg (fC false s i.m nd.name r))/\Gam.pureD (callF tab ext (K+321)) 11 [.agg nd.cells,.agg s.cells,.agg ({i with kind:=1}:Inp).cells]=some (.agg (fC true s i.m nd.name r))):Agree nd s i:=
 ⟨_,_,_,_,_,_,_,_,_,_,_,_,B+200000,fun N a=>by obtain ⟨K,rfl⟩:∃K,N=K+321:=⟨N-321,by omega⟩;have h:=h K (by omega);exact ⟨h.1,h.2,VZ s hs i.m hm false true nd.name r (K+321) (by omega)⟩⟩
theorem agree (nd:Nod)(hnd:nd.small)(s:Stt)(hs:s.small)(h6:s.slots.length<=6)(i:Inp)(hm:i.m.ok)(v:Val)(hv:i.m.body=aS 4 v):Agree nd s i:=by
 obtain ⟨k,f,⟨hk,he⟩,Y,E⟩:=Rl nd hnd v;rw [<-hv] at E;obtain ⟨gi,gb,x,_,_,_,l⟩:=Sz s hs k;have J:=fun K (L:200500<=K)=>qF (K+320) i.m hm (by omega);have O:=fun K (L:200500<=K)=>LD i.m.body hm.body (K+320) (by omega);have H:=fun K (L:Y+200500<=K)=>zbE nd hnd i.m hm.body k f (K+319) (by omega) (E _ (by omega));cases B:(f==0) with
 |false=>
  have ke:keyE k f=f:=by unfold keyE;rw [B];rfl
  have q:(f !=0)=true:=by simp only [bne,B];rfl
  refine qI nd s hs.ok i hm (iG f) (Y+200500) fun K L=>⟨?_,?_⟩;·have h:=H K L;rw [ke] at h;exact Wp nd s i k f K (iG f) (J K (by omega)) h q (dV f he _ (by omega)) (jM s hs.ok nd i.m hm _ _ (by omega))
  exact kF nd hnd (E (K+320) (by omega)) (fun o S Q U P a u A=>zgG nd s i _ k f K (iG f) (O K (by omega)) o S Q U P a u A B q (dV f he _ (by omega)) (mO nd s i.m _ (K+300)))
   (fun a A=>zgD nd s i _ k f K (iG f) (O K (by omega)) a A B q (dV f he _ (by omega)) (mO nd s i.m _ (K+300)))
 |true=>
  have q:(f !=0)=false:=by simp only [bne,B];rfl
  cases hg:dw k with
  |true=>
   have ke:keyE k f=19:=by unfold keyE;rw [B,hg];rfl
   have jT:∀K,Gam.pureD (callF tab ext (K+320)) 26 [.agg k.cells]=some (boolX true):=fun K=>by rw [<-hg];exact nD (K+319) k
   refine qI nd s hs.ok i hm (iG 19) (Y+200500) fun K L=>⟨?_,?_⟩;·have h:=H K L;rw [ke] at h;exact Wp nd s i k 19 K (iG 19) (J K (by omega)) h rfl (dV 19 (by omega) _ (by omega)) (jM s hs.ok nd i.m hm _ _ (by omega))
   exact kF nd hnd (E (K+320) (by omega)) (fun o S Q U P a u A=>zgI nd s i _ k f K (iG 19) (O K (by omega)) o S Q U P a u A B (jT K) (dV 19 (by omega) _ (by omega)) (mO nd s i.m _ (K+300)))
    (fun a A=>zgF nd s i _ k f K (iG 19) (O K (by omega)) a A B (jT K) (dV 19 (by omega) _ (by omega)) (mO nd s i.m _ (K+300)))
  |false=>
   have ke:keyE k f=f:=by unfold keyE;rw [B,hg];rfl
   have jT:∀K,Gam.pureD (callF tab ext (K+320)) 26 [.agg k.cells]=some (boolX false):=fun K=>by rw [<-hg];exact nD (K+319) k
   rw [ke] at H;cases gb with
   |true=>
    refine qI nd s hs.ok i hm jr (Y+200500) fun K L=>⟨?_,?_⟩;·exact Wq nd s i k f K x (J K (by omega)) (H K L) q (l _ (by omega)) (jM s hs.ok nd i.m hm _ _ (by omega))
    exact kF nd hnd (E (K+320) (by omega)) (fun o S Q U P a u A=>zgH nd s i _ k f K x (O K (by omega)) o S Q U P a u A B (jT K) q (l _ (by omega)) (mO nd s i.m _ (K+300)))
     (fun a A=>zgE nd s i _ k f K x (O K (by omega)) a A B (jT K) q (l _ (by omega)) (mO nd s i.m _ (K+300)))
   |false=>
    by_cases hn:s.n>=1099511627776
    ·refine qI nd s hs.ok i hm gG (Y+200500) fun K L=>⟨?_,?_⟩;·exact QM nd s i k f K x (J K (by omega)) (H K L) q (l _ (by omega)) (Eb nd s k (K+319) (decide_eq_true hn)) (jM s hs.ok nd i.m hm _ _ (by omega))
     exact kF nd hnd (E (K+320) (by omega)) (fun o S Q U P a u A=>zdB nd s i _ k f K x (O K (by omega)) o S Q U P a u A B (jT K) q (l _ (by omega)) (decide_eq_true hn) (mO nd s i.m _ (K+300)))
      (fun a A=>zdz nd s i _ k f K x (O K (by omega)) a A B (jT K) q (l _ (by omega)) (decide_eq_true hn) (mO nd s i.m _ (K+300)))
    obtain ⟨j,b,hj,hb,_,hf⟩:=Jv s.slots (by have:=hs.slots;omega) (fun y hy=>(hs.slot y hy).1) k;have pa:b=true->j<s.slots.length:=fun h=>(hb h).1;obtain ⟨w,hw⟩:∃w,IntKind.i64.wrap (s.n+1)=w:=⟨_,rfl⟩;have pb:=fun N (hN:k.size+100<=N)=>wS k hk w N hN;have pc:=Kz b j (newS k w) s.slots;obtain ⟨T,hT⟩:∃T,T=trimS (s.slots.length+1) (wN nd.number) (qJ b j (newS k w) s.slots):=⟨_,rfl⟩;have Z:T.Sublist (qJ b j (newS k w) s.slots):=by rw [hT];exact pF ..
    have pd:=Z.length_le;have W:∀M,190300+3*k.size<=M->Gam.pureD (callF tab ext (M+100)) 15 [.agg (Stt.mk w s.t T).cells,.agg (Stt.mk w s.t T).cells]=some (boolX true):=fun M hM=>
     Ez (M+98) ⟨w,s.t,T⟩ (by show T.length<=60000;omega) (by omega) fun y hy=>by
      rcases BR (Z.subset hy) with rfl|hy;·exact KG k hk w _ (by omega)
      exact BK _ y (hs.slot y hy).1 (by omega)
    refine ⟨w,s.t,w,s.t,ak T,[nat 0::i.m.cells],[],[],ak T,[nat 0::i.m.cells],[],[],Y+201500+3*k.size,fun N hN=>?_⟩;obtain ⟨K,rfl⟩:∃K,N=K+321:=⟨N-321,by omega⟩;refine ⟨?_,?_,QI ⟨w,s.t,T⟩ i.m hm 0 (K+220) (by omega) (W _ (by omega))⟩
    ·have Jj:=tN nd s hs k (by omega) w hw j b hj pa (hf w s.t) (k.size+100) pb (K+320) (by omega) (by omega);have Jj:Gam.pureD (callF tab ext (K+320)) 39 [.agg nd.cells,.agg s.cells,.agg k.cells]=some (.tup [.agg (Stt.mk w s.t T).cells,boolX true]):=by rw [hT];exact Jj
     exact QL nd s i k f K x (J K (by omega)) (H K (by omega)) q (l _ (by omega)) ⟨w,s.t,T⟩ Jj (BZ s hs.ok _ i.m _ (by omega))
    have V:=Ky s hs (newS k w) j b hj pa (hf s.n s.t) (K+320) (by omega) (pb _ (by omega));have UK:Gam.pureD (callF tab ext (K+320)) 45 [.agg s.cells,.agg (newS k w).cells]=some (.tup [.agg [num s.n,num s.t,.sl false 10 (ak (qJ b j (newS k w) s.slots))],num 0]):=by generalize ak (qJ b j (newS k w) s.slots)=R at V ⊢;refine pureD_of V ?_;simp [X.data,dataL,num,jc (bx:=[.row 10 R]) (i:=0) (n:=R.length) rfl rfl]
    have F:=fun τ hτ=>zdx nd w s.t i.m (s.slots.length+1) (qJ b j (newS k w) s.slots) (by omega) pc τ hτ (K+320) (by omega);rw [<-hT] at F;exact kF nd hnd (E (K+320) (by omega)) (fun o S Q U P a u A=>zdA nd s i _ k f K x (O K (by omega)) o S Q U P a u A B (jT K) q (l _ (by omega)) w hw (decide_eq_false hn) _ _ UK F)
     (fun a A=>zdy nd s i _ k f K x (O K (by omega)) a A B (jT K) q (l _ (by omega)) w hw (decide_eq_false hn) _ _ UK F)
end Ct
theorem TL (N:Nat)(nd:Nod)(s:Stt)(i:Inp)(hk:(i.kind !=1)=true):Gam.pureD (callF tab ext (N+1)) 11 [.agg nd.cells,.agg s.cells,.agg i.cells]=some (.agg (UG s).cells):=by obtain ⟨J,tm,⟨M,O⟩,⟨⟨e,p⟩,L,o,⟨f,h,j,l,m,q⟩⟩,x,u,w,⟨y,A,B,E,F,H⟩⟩:=i;obtain ⟨n,t,a⟩:=s;dsimp only at hk;exact puA [(17,.b true)] (pf1 hk) (.agg [num n,num t,.sl false 10 (ak a),.sl true 11 [],.sl true 11 [],.sl true 6 [],.sl true 10 []])
section
variable (nd nd2:Nod) (s s':Stt) (i i':Inp) (N:Nat) (c:Int) (h45:Gam.pureD (callF tab ext N) 6 [.agg nd.cells,.agg s.cells,.agg i.cells]=some (.tup [.agg nd2.cells,.agg s'.cells,.agg i'.cells]))
 (h40:Gam.pureD (callF tab ext N) 7 []=some (boolX true)) (h47:Gam.pureD (callF tab ext N) 8 [.agg s'.cells]=some (num c))
include h45 h40 h47
theorem OB (hc:(c !=0)=true):callF tab ext (N+1) (.fn 3) [.agg nd.cells,.agg s.cells,.agg i.cells] []=some (.v (.bool true),[]):=by obtain ⟨_,_,⟨_,_⟩,⟨⟨_,_⟩,_,_,⟨_,_,_,_,_,_⟩⟩,_,_,_,⟨_,_,_,_,_,_⟩⟩:=i;obtain ⟨a,l,⟨h,j⟩,⟨⟨q,Q⟩,f,P,⟨F,H,J,L,M,O⟩⟩,W,m,n,⟨u,w,y,A,B,E⟩⟩:=i';obtain ⟨S,U,V⟩:=s';exact caA [(11,.p (.tup [.agg nd2.cells,.agg (Stt.mk S U V).cells,.agg (Inp.mk a l ⟨h,j⟩ ⟨⟨q,Q⟩,f,P,⟨F,H,J,L,M,O⟩⟩ W m n ⟨u,w,y,A,B,E⟩).cells])),(15,.p (boolX true)),(19,.p (num c)),(20,.b true),(22,.p (boolX true))] (pf5 h45 h40 h47 hc h40)
theorem Gl (hc:(c !=0)=false)(n t n' t':Int)(ss os fs ls ss' os' fs' ls':qaW)(h36:Gam.pureD (callF tab ext N) 10 [.agg nd2.cells,.agg s'.cells,.agg i'.cells]=some (.agg (ocC n t ss os fs ls)))
  (h49:Gam.pureD (callF tab ext N) 11 [.agg nd2.cells,.agg s'.cells,.agg i'.cells]=some (.agg (ocC n' t' ss' os' fs' ls'))) (h48:Gam.pureD (callF tab ext N) 9 [.agg (ocC n t ss os fs ls),.agg (ocC n' t' ss' os' fs' ls')]=some (boolX true)):
  callF tab ext (N+1) (.fn 3) [.agg nd.cells,.agg s.cells,.agg i.cells] []=some (.v (.bool true),[]):=by
 obtain ⟨_,_,⟨_,_⟩,⟨⟨_,_⟩,_,_,⟨_,_,_,_,_,_⟩⟩,_,_,_,⟨_,_,_,_,_,_⟩⟩:=i;obtain ⟨a,l,⟨h,j⟩,⟨⟨u,S⟩,f,Q,⟨H,J,L,M,O,P⟩⟩,W,m,q,⟨w,y,A,B,E,F⟩⟩:=i';obtain ⟨U,V,sl⟩:=s';exact caA [(11,.p (.tup [.agg nd2.cells,.agg (Stt.mk U V sl).cells,.agg (Inp.mk a l ⟨h,j⟩ ⟨⟨u,S⟩,f,Q,⟨H,J,L,M,O,P⟩⟩ W m q ⟨w,y,A,B,E,F⟩).cells])),(15,.p (boolX true)),(19,.p (num c)),(20,.b false),(26,.p (.agg (ocC n t ss os fs ls))),(30,.p (.agg (ocC n' t' ss' os' fs' ls'))),(31,.p (boolX true))] (pf7 h45 h40 h47 hc h36 h49 h48)
end
theorem dsteps_all (cn:List X)(hcn:isNode cn)(s:Stt)(i:Inp):∃n,callF tab ext n (.fn 3) [.agg cn,.agg s.cells,.agg i.cells] []=some (.v (.bool true),[]):=by
 obtain ⟨h,a,rfl,F,E⟩:=Ag hcn;have H:({a with kind:=6}:Nod).small:=F;have j:=lG s;have O:=qO s;have Q:(fO i).m.ok:=by rw [BM];exact pK i.m
 obtain ⟨v,S⟩:=lH i;obtain ⟨c,_,y⟩:=J8 (shortS s) j;have f:∀N,400<=N->Gam.pureD (callF tab ext N) 7 []=some (boolX true):=fun N Z=>by obtain ⟨M,rfl⟩:∃M,N=M+400:=⟨N-400,by omega⟩;exact rG M
 cases l:(c !=0) with
 |true=>exact ⟨190401,OB h _ s _ i _ 190400 c (cO h a E s i _ (by omega)) (f _ (by omega)) (y _ (by omega)) l⟩
 |false=>
  cases A:((fO i).kind==1) with
  |false=>
   have P:((fO i).kind !=1)=true:=by simp only [bne,A];rfl
   exact ⟨190401,Gl h _ s _ i _ 190400 c (cO h a E s i _ (by omega)) (f _ (by omega)) (y _ (by omega)) l _ _ _ _ _ _ _ _ _ _ _ _ (step_other 190400 (by omega) _ (shortS s) j.ok (fO i) (by rw [A];rfl)) (TL 190399 _ (shortS s) (fO i) P) (WE 190400 (UG (shortS s)) (zbo j.ok) (by omega))⟩
  |true=>obtain ⟨n,t,n',t',ss,os,Y,ls,W,V,L,U,B,J⟩:=Ct.agree {a with kind:=6} H (shortS s) j O (fO i) Q v S;rw [FM _ A] at J;obtain ⟨q,w,u⟩:=J (B+190400) (by omega);exact ⟨B+190401,Gl h _ s _ i _ (B+190400) c (cO h a E s i _ (by omega)) (f _ (by omega)) (y _ (by omega)) l _ _ _ _ _ _ _ _ _ _ _ _ q w u⟩
open Go.Em Go.RowKit Go.Lib
end Go.Proofs.YtcbeoccmflnejaaGreatDoor
