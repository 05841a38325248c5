/- parser.list in plain words. -/
import Derived.Test.YtmgkedikciddlaaGreatDoorMq
import Derived.Test.YtmgkedikciddlaaGreatDoorMj
set_option linter.all false
set_option maxRecDepth 100000
namespace Go.Proofs.Tryz
open Go Go.En
noncomputable section
def Bv.fI {R:Type} (x:Int) (p:PS) (out:Int) (f:Int->PS->Option R):Option R:=(HU.k x p).bind fun y=>(Fm.k 20 y.1.1).bind fun z=>(ES.k (Dop.Ab.mk z.1.1.kind x out z.1.1.c z.1.1.d z.1.1.text z.1.1.n z.1.1.CG z.1.1.at_) y.2.1).bind fun v=>f v.1.1 v.2.1
def Bv.fH:List Int->PS->Int->Option ((Int×Unit)×(PS×Unit))
 | [],p,out=>some ((out,()),(p,()))
 | x::r,p,out=>Bv.fI x p out fun o q=>Bv.fH r q o
def Bv.k (l:List Int) (p:PS):Option ((Int×Unit)×(PS×Unit)):=match decide (l.length<9223372036854775807) with
 | true=>Bv.fH l.reverse p (-1)
 | false=>none
theorem Bv.X5 (x:Int) (p:PS) (out:Int):Bv.step x ((),(p,((),()),(out,()),()))=Bv.fI x p out fun o q=>some ((),(q,((),()),(o,()),())):=by kernel_rfl
theorem Bv.M9: ∀ (l:List Int) (p:PS) (out:Int),((Bv.go l ((),(p,((),()),(out,()),()))).bind fun y=>some ((y.2.2.2.1.1,()),(y.2.1,())))=Bv.fH l p out
 | [],p,out=>rfl
 | x::r,p,out=>(congrArg (fun z=>(Option.bind z (Bv.go r)).bind fun y=>some ((y.2.2.2.1.1,()),(y.2.1,()))) (Bv.X5 x p out)).trans (by
  unfold Bv.fI
  simp only [Option.bind_assoc,Option.bind_some]
  exact congrArg _ (funext fun y=>congrArg _ (funext fun z=>congrArg _ (funext fun v=>Bv.M9 r v.2.1 v.1.1))))
theorem Bv.dn (x):Bv.R x=Bv.k x.1.2.1 x.2.1:=by
 unfold Bv.R Bv.k
 cases decide (x.1.2.1.length<9223372036854775807) with
 | true=>exact Bv.M9 _ _ _
 | false=>rfl
def Bv.Kc:B2 Dop.D4:=⟨44,Bv.p.bn,Bv.p.sp,Bv.p.rs,Bv.p.flat,.opt fun x=>Bv.k x.1.2.1 x.2.1⟩
theorem Bv.Kh:Bv.Kc.Holds prog:=TB Bv.holds (by unfold Bv.Kc Bv.c;rw [show Bv.R=fun x=>Bv.k x.1.2.1 x.2.1 from funext Bv.dn])
end
set_option maxHeartbeats 4000000
noncomputable section
def Lh.k :Fs (List (List UInt8)):=
 Cn (([124,124]:List UInt8)::([38,38]:List UInt8)::([124]:List UInt8)::([94]:List UInt8)::([38]:List UInt8)::([61,61,32,33,61]:List UInt8)::([60,32,60,61,32,62,32,62,61]:List UInt8)::([60,60,32,62,62]:List UInt8)::([43,32,45]:List UInt8)::([42,32,47,32,37]:List UInt8)::[])
def Lh.Kc:=kd 210 Lh.p fun x=>Lh.k
theorem Lh.Kh:Lh.Kc.Holds prog:=kh AI hn Lh.ok (by kernel_rfl)
abbrev Dz.kr (r:Ay.T) (k0:PS):R1 Int PS:=r.1 (((),()),(k0,()))
abbrev DI.kr (r:Ay.T) (k0:PS):R1 Int PS:=r.2.1 (((),(),()),(k0,()))
abbrev J9.kr (r:Ay.T) (k0:PS):R1 Int PS:=r.2.2.2.1 (((),()),(k0,()))
abbrev C8.kr (r:Ay.T) (k:Int) (k0:PS):R1 Int PS:=r.2.2.2.2.1 (((),k,()),(k0,()))
abbrev Dn.kr (r:Ay.T) (k0:PS):R1 Int PS:=r.2.2.2.2.2.1 (((),()),(k0,()))
abbrev CV.kr (r:Ay.T) (k0:PS):R1 Int PS:=r.2.2.2.2.2.2.1 (((),(),()),(k0,()))
abbrev KA.kr (r:Ay.T) (k0:PS):R1 Int PS:=r.2.2.2.2.2.2.2.1 (((),()),(k0,()))
abbrev ED.kr (r:Ay.T) (k0:PS):R1 Int PS:=r.2.2.2.2.2.2.2.2.1 (((),()),(k0,()))
abbrev Dp.kr (r:Ay.T) (t1:Int) (k0:PS):R1 Int PS:=r.2.2.2.2.2.2.2.2.2.1 (((),t1,()),(k0,()))
abbrev DJ.kr (r:Ay.T) (k0:PS):R1 Int PS:=r.2.2.2.2.2.2.2.2.2.2.1 (((),(),()),(k0,()))
def Dz.kf (rK:Ay.T) (k0:PS):R1 Int PS:=
 (DI.kr rK k0).bind ML
abbrev QN.T:Type:=Int->(List (List UInt8))->Int->Int->PS->R1 Int PS
abbrev EB.KT:Type:=QN.T×Unit
def QN.kB (rK:Ay.T) (tK:EB.KT):QN.T:=fun a t10 t11 t12 k0=>
 let A1:=List.getD t10 t12.toNat []
 ci (t12<t11) (ck (0<=t12/\t12<I t10.length)<|
 ck (t12.toNat<t10.length)<|
 (Es.k k0).bind fun y3=>
 (FA.k A1 y3.2.1).bind fun y4=>
 ci y4.1.1 ((Fm.k 5 y3.1.1.at_).bind fun y6=>
 (Dz.kr rK y4.2.1).bind fun y7=>
 (ES.k (Dop.Ab.mk y6.1.1.kind a y7.1.1 y6.1.1.c y6.1.1.d A1 y6.1.1.n y6.1.1.CG y6.1.1.at_) y7.2.1).bind ML)<|
 ck (BI (t12+1))<|
 tK.1 a t10 t11 (t12+1) y4.2.1)<|
 Co a k0
def EB.kS (rK:Ay.T) (tK:EB.KT):EB.KT:=(QN.kB rK tK,())
def EB.kL (rK:Ay.T) (n:Nat):EB.KT:=Bp (EB.kS rK) n
def EB.k0 (rK:Ay.T) (tK:EB.KT) (k0:PS):R1 Int PS:=
 (J9.kr rK k0).bind fun y2=>
 ck (Zt ([61,32,43,61,32,45,61,32,42,61,32,47,61,32,37,61,32,38,61,32,124,61,32,94,61,32,60,60,61,32,62,62,61]:List UInt8) && ((Lib.fields ([61,32,43,61,32,45,61,32,42,61,32,47,61,32,37,61,32,38,61,32,124,61,32,94,61,32,60,60,61,32,62,62,61]:List UInt8)).length<=maxLen))<|
 tK.1 y2.1.1 (List.map (fun (a:List UInt8)=>a) (Lib.fields ([61,32,43,61,32,45,61,32,42,61,32,47,61,32,37,61,32,38,61,32,124,61,32,94,61,32,60,60,61,32,62,62,61]:List UInt8))) (I (List.map (fun (a:List UInt8)=>a) (Lib.fields ([61,32,43,61,32,45,61,32,42,61,32,47,61,32,37,61,32,38,61,32,124,61,32,94,61,32,60,60,61,32,62,62,61]:List UInt8))).length) 0 y2.2.1
def EB.kf (rK:Ay.T) (k0:PS):R1 Int PS:=EB.k0 rK (EB.kL rK 1000000) k0
def J9.kf (rK:Ay.T) (k0:PS):R1 Int PS:=
 (C8.kr rK 0 k0).bind fun y2=>
 (Es.k y2.2.1).bind fun y3=>
 (FA.k ([63]:List UInt8) y3.2.1).bind fun y4=>
 ci (!y4.1.1) (Co y2.1.1 y4.2.1)<|
 (Fm.k 6 y3.1.1.at_).bind fun y6=>
 (Dz.kr rK y4.2.1).bind fun y7=>
 (GN.k ([58]:List UInt8) y7.2.1).bind fun y8=>
 (DJ.kr rK y8.2.1).bind fun y9=>
 (ES.k (Dop.Ab.mk y6.1.1.kind y2.1.1 y7.1.1 y9.1.1 y6.1.1.d y6.1.1.text y6.1.1.n y6.1.1.CG y6.1.1.at_) y9.2.1).bind ML
abbrev QP.T:Type:=Int->Int->PS->R1 Int PS
abbrev QQ.T:Type:=Int->Int->(List (List UInt8))->Int->Int->PS->R1 Int PS
abbrev C8.KT:Type:=QP.T×QQ.T×Unit
def QP.kB (rK:Ay.T) (tK:C8.KT):QP.T:=fun k a k0=>
 (Lh.k).bind fun y2=>
 ck (0<=k/\k<I y2.1.1.length)<|
 ck (k.toNat<y2.1.1.length)<|
 ck (Zt (List.getD y2.1.1 k.toNat []) && ((Lib.fields (List.getD y2.1.1 k.toNat [])).length<=maxLen))<|
 tK.2.1 k a (List.map (fun (a:List UInt8)=>a) (Lib.fields (List.getD y2.1.1 k.toNat []))) (I (List.map (fun (a:List UInt8)=>a) (Lib.fields (List.getD y2.1.1 k.toNat []))).length) 0 k0
def QQ.kB (rK:Ay.T) (tK:C8.KT):QQ.T:=fun k a t24 t25 t26 k0=>
 let A1:=List.getD t24 t26.toNat []
 ci (t26<t25) (ck (0<=t26/\t26<I t24.length)<|
 ck (t26.toNat<t24.length)<|
 (Es.k k0).bind fun y3=>
 (FA.k A1 y3.2.1).bind fun y4=>
 ci y4.1.1 ((Fm.k 4 y3.1.1.at_).bind fun y6=>
 ck (BI (k+1))<|
 (C8.kr rK (k+1) y4.2.1).bind fun y7=>
 (ES.k (Dop.Ab.mk y6.1.1.kind a y7.1.1 y6.1.1.c y6.1.1.d A1 y6.1.1.n y6.1.1.CG y6.1.1.at_) y7.2.1).bind fun y8=>
 tK.1 k y8.1.1 y8.2.1)<|
 ck (BI (t26+1))<|
 tK.2.1 k a t24 t25 (t26+1) y4.2.1)<|
 Co a k0
def C8.kS (rK:Ay.T) (tK:C8.KT):C8.KT:=(QP.kB rK tK,QQ.kB rK tK,())
def C8.kL (rK:Ay.T) (n:Nat):C8.KT:=Bp (C8.kS rK) n
def C8.k0 (rK:Ay.T) (tK:C8.KT) (k:Int) (k0:PS):R1 Int PS:=
 (Lh.k).bind fun y2=>
 ci (k=I y2.1.1.length) ((Dn.kr rK k0).bind ML)<|
 ck (BI (k+1))<|
 (C8.kr rK (k+1) k0).bind fun y4=>
 tK.1 k y4.1.1 y4.2.1
def C8.kf (rK:Ay.T) (k:Int) (k0:PS):R1 Int PS:=C8.k0 rK (C8.kL rK 1000000) k k0
abbrev QR.T:Type:=Int->(List (List UInt8))->Int->Int->PS->R1 Int PS
abbrev Dn.KT:Type:=QR.T×Unit
def QR.kB (rK:Ay.T) (tK:Dn.KT):QR.T:=fun t3 t13 t14 t15 k0=>
 let A1:=List.getD t13 t15.toNat []
 ci (t15<t14) (ck (0<=t15/\t15<I t13.length)<|
 ck (t15.toNat<t13.length)<|
 (FA.k A1 k0).bind fun y3=>
 ci y3.1.1 ((Fm.k 3 t3).bind fun y5=>
 ci (I A1.length=2) ((CV.kr rK y3.2.1).bind fun y7=>
 (ES.k (Dop.Ab.mk 12 y7.1.1 y5.1.1.b y5.1.1.c y5.1.1.d A1 y5.1.1.n y5.1.1.CG y5.1.1.at_) y7.2.1).bind ML)<|
 (CV.kr rK y3.2.1).bind fun y7=>
 (ES.k (Dop.Ab.mk y5.1.1.kind y7.1.1 y5.1.1.b y5.1.1.c y5.1.1.d A1 y5.1.1.n y5.1.1.CG y5.1.1.at_) y7.2.1).bind ML)<|
 ck (BI (t15+1))<|
 tK.1 t3 t13 t14 (t15+1) y3.2.1)<|
 (FA.k ([115,105,122,101,111,102]:List UInt8) k0).bind fun y3=>
 ci y3.1.1 ((Fm.k 11 t3).bind fun y5=>
 (GN.k ([40]:List UInt8) y3.2.1).bind fun y6=>
 (DW.k y6.2.1).bind fun y7=>
 (Tq.k y7.1.1 y7.2.1).bind fun y8=>
 (GN.k ([41]:List UInt8) y8.2.1).bind fun y9=>
 (ES.k (Dop.Ab.mk y5.1.1.kind y5.1.1.a y5.1.1.b y5.1.1.c y5.1.1.d y5.1.1.text y5.1.1.n y8.1.1 y5.1.1.at_) y9.2.1).bind ML)<|
 (NW.k ([40]:List UInt8) y3.2.1).bind fun y5=>
 ci y5.1.1 (ck (BI (PS.at_ y5.2.1+1))<|
 ci (PS.at_ y5.2.1+1<I (PS.l y5.2.1).length) (ck (BI (PS.at_ y5.2.1+1))<|
 (Hu.k (PS.l y5.2.1) (PS.at_ y5.2.1+1) (PS.top y5.2.1) (PS.deep y5.2.1) (PS.e y5.2.1) (PS.when y5.2.1)).bind fun y8=>
 ci y8.1.1 ((Fm.k 10 t3).bind fun y10=>
 (GN.k ([40]:List UInt8) y5.2.1).bind fun y11=>
 (DW.k y11.2.1).bind fun y12=>
 (GN.k ([41]:List UInt8) y12.2.1).bind fun y13=>
 (CV.kr rK y13.2.1).bind fun y14=>
 (ES.k (Dop.Ab.mk y10.1.1.kind y14.1.1 y10.1.1.b y10.1.1.c y10.1.1.d y10.1.1.text y10.1.1.n y12.1.1 y10.1.1.at_) y14.2.1).bind ML)<|
 (KA.kr rK y5.2.1).bind fun y10=>
 (Dp.kr rK y10.1.1 y10.2.1).bind ML)<|
 (KA.kr rK y5.2.1).bind fun y8=>
 (Dp.kr rK y8.1.1 y8.2.1).bind ML)<|
 (KA.kr rK y5.2.1).bind fun y7=>
 (Dp.kr rK y7.1.1 y7.2.1).bind ML
def Dn.kS (rK:Ay.T) (tK:Dn.KT):Dn.KT:=(QR.kB rK tK,())
def Dn.kL (rK:Ay.T) (n:Nat):Dn.KT:=Bp (Dn.kS rK) n
def Dn.k0 (rK:Ay.T) (tK:Dn.KT) (k0:PS):R1 Int PS:=
 (Es.k k0).bind fun y2=>
 ck (Zt ([43,43,32,45,45,32,45,32,33,32,126,32,42,32,38]:List UInt8) && ((Lib.fields ([43,43,32,45,45,32,45,32,33,32,126,32,42,32,38]:List UInt8)).length<=maxLen))<|
 tK.1 y2.1.1.at_ (List.map (fun (a:List UInt8)=>a) (Lib.fields ([43,43,32,45,45,32,45,32,33,32,126,32,42,32,38]:List UInt8))) (I (List.map (fun (a:List UInt8)=>a) (Lib.fields ([43,43,32,45,45,32,45,32,33,32,126,32,42,32,38]:List UInt8))).length) 0 y2.2.1
def Dn.kf (rK:Ay.T) (k0:PS):R1 Int PS:=Dn.k0 rK (Dn.kL rK 1000000) k0
def KA.kf (rK:Ay.T) (k0:PS):R1 Int PS:=
 (Es.k k0).bind fun y2=>
 (Fm.k 1 y2.1.1.at_).bind fun y3=>
 ci (y2.1.1.kind=3) (ck (BI (PS.at_ y2.2.1+1))<|
 (ES.k (Dop.Ab.mk y3.1.1.kind y3.1.1.a y3.1.1.b y3.1.1.c y3.1.1.d y3.1.1.text y2.1.1.n y3.1.1.CG y3.1.1.at_) ((PS.VK y2.2.1 (PS.at_ y2.2.1+1)))).bind ML)<|
 ci (y2.1.1.kind=1) (ck (BI (PS.at_ y2.2.1+1))<|
 (FA.k ([40]:List UInt8) ((PS.VK y2.2.1 (PS.at_ y2.2.1+1)))).bind fun y6=>
 ci y6.1.1 ((ED.kr rK y6.2.1).bind fun y8=>
 (ES.k (Dop.Ab.mk 9 y8.1.1 y3.1.1.b y3.1.1.c y3.1.1.d y2.1.1.text y3.1.1.n y3.1.1.CG y3.1.1.at_) y8.2.1).bind ML)<|
 (ES.k (Dop.Ab.mk 2 y3.1.1.a y3.1.1.b y3.1.1.c y3.1.1.d y2.1.1.text y3.1.1.n y3.1.1.CG y3.1.1.at_) y6.2.1).bind ML)<|
 (FA.k ([40]:List UInt8) y2.2.1).bind fun y6=>
 ci y6.1.1 ((Dz.kr rK y6.2.1).bind fun y8=>
 (GN.k ([41]:List UInt8) y8.2.1).bind fun y9=>
 Co y8.1.1 y9.2.1)<|
 (FA.k ([103,101,116,99]:List UInt8) y6.2.1).bind fun y8=>
 ci y8.1.1 ((GN.k ([40]:List UInt8) y8.2.1).bind fun y10=>
 (GN.k ([41]:List UInt8) y10.2.1).bind fun y11=>
 (ES.k (Dop.Ab.mk 14 y3.1.1.a y3.1.1.b y3.1.1.c y3.1.1.d y3.1.1.text y3.1.1.n y3.1.1.CG y3.1.1.at_) y11.2.1).bind ML)<|
 (GN.k ([112,117,116,99]:List UInt8) y8.2.1).bind fun y10=>
 (GN.k ([40]:List UInt8) y10.2.1).bind fun y11=>
 (Dz.kr rK y11.2.1).bind fun y12=>
 (GN.k ([41]:List UInt8) y12.2.1).bind fun y13=>
 (ES.k (Dop.Ab.mk 15 y12.1.1 y3.1.1.b y3.1.1.c y3.1.1.d y3.1.1.text y3.1.1.n y3.1.1.CG y3.1.1.at_) y13.2.1).bind ML
abbrev QT.T:Type:=List Int->PS->R1 Int PS
abbrev ED.KT:Type:=QT.T×Unit
def QT.kB (rK:Ay.T) (tK:ED.KT):QT.T:=fun l k0=>
 let F1:Y1 Int PS->R1 Int PS:=fun y6=>
 ck (DG none (room 8 (l.length+(y6.1.1::[]).length)))<|
 tK.1 (l++y6.1.1::[]) y6.2.1
 (FA.k ([41]:List UInt8) k0).bind fun y2=>
 ci (!y2.1.1) (ci (PS.e y2.2.1=0) (ci (0<I l.length) ((GN.k ([44]:List UInt8) y2.2.1).bind fun y6=>
 (Dz.kr rK y6.2.1).bind F1)<|
 (Dz.kr rK y2.2.1).bind F1)<|
 (Bv.k l y2.2.1).bind ML)<|
 (Bv.k l y2.2.1).bind ML
def ED.kS (rK:Ay.T) (tK:ED.KT):ED.KT:=(QT.kB rK tK,())
def ED.kL (rK:Ay.T) (n:Nat):ED.KT:=Bp (ED.kS rK) n
def ED.k0 (rK:Ay.T) (tK:ED.KT) (k0:PS):R1 Int PS:=
 tK.1 [] k0
def ED.kf (rK:Ay.T) (k0:PS):R1 Int PS:=ED.k0 rK (ED.kL rK 1000000) k0
abbrev QS.T:Type:=Int->PS->R1 Int PS
abbrev Dp.KT:Type:=QS.T×Unit
def QS.kB (rK:Ay.T) (tK:Dp.KT):QS.T:=fun t1 k0=>
 ci (k0.e=0) ((Es.k k0).bind fun y3=>
 (Fm.k 7 y3.1.1.at_).bind fun y4=>
 (FA.k ([91]:List UInt8) y3.2.1).bind fun y5=>
 ci y5.1.1 ((Dz.kr rK y5.2.1).bind fun y7=>
 (GN.k ([93]:List UInt8) y7.2.1).bind fun y8=>
 (ES.k (Dop.Ab.mk y4.1.1.kind t1 y7.1.1 y4.1.1.c y4.1.1.d y4.1.1.text y4.1.1.n y4.1.1.CG y4.1.1.at_) y8.2.1).bind fun y9=>
 tK.1 y9.1.1 y9.2.1)<|
 (FA.k ([46]:List UInt8) y5.2.1).bind fun y7=>
 ci y7.1.1 (ci y7.1.1 (ck (BI (PS.at_ y7.2.1 -1))<|
 ck (0<=PS.at_ y7.2.1 -1/\PS.at_ y7.2.1 -1<I (PS.l y7.2.1).length)<|
 ci ((List.getD (PS.l y7.2.1) (PS.at_ y7.2.1 -1).toNat Dop.d4).text=(45:UInt8)::(62:UInt8)::[]) ((MK.k 1 y7.2.1).bind fun y11=>
 (ES.k (Dop.Ab.mk 8 t1 y4.1.1.b y4.1.1.c y4.1.1.d y11.1.1.text 1 y4.1.1.CG y4.1.1.at_) y11.2.1).bind fun y12=>
 tK.1 y12.1.1 y12.2.1)<|
 (MK.k 1 y7.2.1).bind fun y11=>
 (ES.k (Dop.Ab.mk 8 t1 y4.1.1.b y4.1.1.c y4.1.1.d y11.1.1.text y4.1.1.n y4.1.1.CG y4.1.1.at_) y11.2.1).bind fun y12=>
 tK.1 y12.1.1 y12.2.1)<|
 (FA.k ([43,43]:List UInt8) y7.2.1).bind fun y10=>
 ci y10.1.1 (ci y10.1.1 (ck (BI (PS.at_ y10.2.1 -1))<|
 ck (0<=PS.at_ y10.2.1 -1/\PS.at_ y10.2.1 -1<I (PS.l y10.2.1).length)<|
 (ES.k (Dop.Ab.mk 13 t1 y4.1.1.b y4.1.1.c y4.1.1.d (List.getD (PS.l y10.2.1) (PS.at_ y10.2.1 -1).toNat Dop.d4).text y4.1.1.n y4.1.1.CG y4.1.1.at_) y10.2.1).bind fun y13=>
 tK.1 y13.1.1 y13.2.1)<|
 Co t1 y10.2.1)<|
 (FA.k ([45,45]:List UInt8) y10.2.1).bind fun y12=>
 ci y12.1.1 (ck (BI (PS.at_ y12.2.1 -1))<|
 ck (0<=PS.at_ y12.2.1 -1/\PS.at_ y12.2.1 -1<I (PS.l y12.2.1).length)<|
 (ES.k (Dop.Ab.mk 13 t1 y4.1.1.b y4.1.1.c y4.1.1.d (List.getD (PS.l y12.2.1) (PS.at_ y12.2.1 -1).toNat Dop.d4).text y4.1.1.n y4.1.1.CG y4.1.1.at_) y12.2.1).bind fun y14=>
 tK.1 y14.1.1 y14.2.1)<|
 Co t1 y12.2.1)<|
 (FA.k ([45,62]:List UInt8) y7.2.1).bind fun y9=>
 ci y9.1.1 (ck (BI (PS.at_ y9.2.1 -1))<|
 ck (0<=PS.at_ y9.2.1 -1/\PS.at_ y9.2.1 -1<I (PS.l y9.2.1).length)<|
 ci ((List.getD (PS.l y9.2.1) (PS.at_ y9.2.1 -1).toNat Dop.d4).text=(45:UInt8)::(62:UInt8)::[]) ((MK.k 1 y9.2.1).bind fun y12=>
 (ES.k (Dop.Ab.mk 8 t1 y4.1.1.b y4.1.1.c y4.1.1.d y12.1.1.text 1 y4.1.1.CG y4.1.1.at_) y12.2.1).bind fun y13=>
 tK.1 y13.1.1 y13.2.1)<|
 (MK.k 1 y9.2.1).bind fun y12=>
 (ES.k (Dop.Ab.mk 8 t1 y4.1.1.b y4.1.1.c y4.1.1.d y12.1.1.text y4.1.1.n y4.1.1.CG y4.1.1.at_) y12.2.1).bind fun y13=>
 tK.1 y13.1.1 y13.2.1)<|
 (FA.k ([43,43]:List UInt8) y9.2.1).bind fun y11=>
 ci y11.1.1 (ci y11.1.1 (ck (BI (PS.at_ y11.2.1 -1))<|
 ck (0<=PS.at_ y11.2.1 -1/\PS.at_ y11.2.1 -1<I (PS.l y11.2.1).length)<|
 (ES.k (Dop.Ab.mk 13 t1 y4.1.1.b y4.1.1.c y4.1.1.d (List.getD (PS.l y11.2.1) (PS.at_ y11.2.1 -1).toNat Dop.d4).text y4.1.1.n y4.1.1.CG y4.1.1.at_) y11.2.1).bind fun y14=>
 tK.1 y14.1.1 y14.2.1)<|
 Co t1 y11.2.1)<|
 (FA.k ([45,45]:List UInt8) y11.2.1).bind fun y13=>
 ci y13.1.1 (ck (BI (PS.at_ y13.2.1 -1))<|
 ck (0<=PS.at_ y13.2.1 -1/\PS.at_ y13.2.1 -1<I (PS.l y13.2.1).length)<|
 (ES.k (Dop.Ab.mk 13 t1 y4.1.1.b y4.1.1.c y4.1.1.d (List.getD (PS.l y13.2.1) (PS.at_ y13.2.1 -1).toNat Dop.d4).text y4.1.1.n y4.1.1.CG y4.1.1.at_) y13.2.1).bind fun y15=>
 tK.1 y15.1.1 y15.2.1)<|
 Co t1 y13.2.1)<|
 Co (-1) k0
def Dp.kS (rK:Ay.T) (tK:Dp.KT):Dp.KT:=(QS.kB rK tK,())
def Dp.kL (rK:Ay.T) (n:Nat):Dp.KT:=Bp (Dp.kS rK) n
def Dp.k0 (rK:Ay.T) (tK:Dp.KT) (t1:Int) (k0:PS):R1 Int PS:=
 tK.1 t1 k0
def Dp.kf (rK:Ay.T) (t1:Int) (k0:PS):R1 Int PS:=Dp.k0 rK (Dp.kL rK 1000000) t1 k0
def Ay.kS (r:Ay.T):Ay.T:=(fun x=>Dz.kf r x.2.1,fun x=>within r.2.2.1 x.2.1,fun x=>EB.kf r x.2.1,fun x=>J9.kf r x.2.1,fun x=>C8.kf r x.1.2.1 x.2.1,fun x=>Dn.kf r x.2.1,fun x=>within r.2.2.2.2.2.1 x.2.1,fun x=>KA.kf r x.2.1,fun x=>ED.kf r x.2.1,fun x=>Dp.kf r x.1.2.1 x.2.1,fun x=>within r.2.2.2.1 x.2.1,())
def Ay.kR (n:Nat):Ay.T:=Bp Ay.kS n
def Dz.Kc (n:Nat):=kd 174 Dz.p (Ay.kR n).1
def Dz.LZ:=Dz.Kc FU
def Dz.k:=Dz.kr (Ay.kR FU)
def DI.Kc (n:Nat):=kd 143 DI.p (Ay.kR n).2.1
abbrev EB.kq (n:Nat):((Unit×Unit)×(PS×Unit))->Option ((Int×Unit)×(PS×Unit)):=(Ay.kR n).2.2.1
def EB.Kc (n:Nat):=kd 200 EB.p (Ay.kR n).2.2.1
abbrev J9.kq (n:Nat):((Unit×Unit)×(PS×Unit))->Option ((Int×Unit)×(PS×Unit)):=(Ay.kR n).2.2.2.1
def J9.Kc (n:Nat):=kd 208 J9.p (Ay.kR n).2.2.2.1
def C8.Kc (n:Nat):=kd 209 C8.p (Ay.kR n).2.2.2.2.1
abbrev Dn.kq (n:Nat):((Unit×Unit)×(PS×Unit))->Option ((Int×Unit)×(PS×Unit)):=(Ay.kR n).2.2.2.2.2.1
def Dn.Kc (n:Nat):=kd 211 Dn.p (Ay.kR n).2.2.2.2.2.1
def CV.Kc (n:Nat):=kd 143 CV.p (Ay.kR n).2.2.2.2.2.2.1
def KA.Kc (n:Nat):=kd 213 KA.p (Ay.kR n).2.2.2.2.2.2.2.1
def ED.Kc (n:Nat):=kd 214 ED.p (Ay.kR n).2.2.2.2.2.2.2.2.1
def Dp.Kc (n:Nat):=kd 212 Dp.p (Ay.kR n).2.2.2.2.2.2.2.2.2.1
def DJ.Kc (n:Nat):=kd 143 DJ.p (Ay.kR n).2.2.2.2.2.2.2.2.2.2.1
def Ay.Si (n:Nat):List (B2 Dop.D4):=[Dz.Kc n,DI.Kc n,EB.Kc n,J9.Kc n,C8.Kc n,Dn.Kc n,CV.Kc n,KA.Kc n,ED.Kc n,Dp.Kc n,DJ.Kc n]
theorem Ay.FD: ∀ n,(Dz.Kc n).Holds prog/\(DI.Kc n).Holds prog/\(EB.Kc n).Holds prog/\(J9.Kc n).Holds prog/\(C8.Kc n).Holds prog/\(Dn.Kc n).Holds prog/\(CV.Kc n).Holds prog/\(KA.Kc n).Holds prog/\(ED.Kc n).Holds prog/\(Dp.Kc n).Holds prog/\(DJ.Kc n).Holds prog/\True
 | 0=>⟨AP AI Dz.ok,AP AI (by kernel_rfl),AP AI EB.ok,AP AI J9.ok,AP AI C8.ok,AP AI Dn.ok,AP AI (by kernel_rfl),AP AI KA.ok,AP AI ED.ok,AP AI Dp.ok,AP AI (by kernel_rfl),trivial⟩
 | n+1=>by
  obtain ⟨h0,h1,h2,h3,h4,h5,h6,h7,h8,h9,h10,_⟩:=Ay.FD n
  have hh: ∀ c∈Ay.Si n,c.Holds prog:=(hc h0 (hc h1 (hc h2 (hc h3 (hc h4 (hc h5 (hc h6 (hc h7 (hc h8 (hc h9 (hc h10 hn)))))))))))
  exact ⟨kh AI (Af hh hn) Dz.ok (by kernel_rfl),
   (nZ.holds (m:=EB.kq n) h2),
   Fx AI (Af hh (hc fields.holds (hc Es.Kh (hc FA.Kh (hc Fm.Kh (hc ES.Kh hn)))))) EB.ok (fun t x=>EB.k0 (Ay.kR n) t x.2.1) (fun c=>(fun a t10 t11 t12 k0=>c 3 EB.q3 rfl (((),a,t10,t11,t12,()),(k0,())),())) (EB.kS (Ay.kR n)) (by kernel_rfl),
   kh AI (Af hh (hc Es.Kh (hc FA.Kh (hc Fm.Kh (hc GN.Kh (hc ES.Kh hn)))))) J9.ok (by kernel_rfl),
   Fx AI (Af hh (hc Lh.Kh (hc fields.holds (hc Es.Kh (hc FA.Kh (hc Fm.Kh (hc ES.Kh hn))))))) C8.ok (fun t x=>C8.k0 (Ay.kR n) t x.1.2.1 x.2.1) (fun c=>(fun k a k0=>c 4 C8.q4 rfl (((),k,a,()),(k0,())),fun k a t24 t25 t26 k0=>c 5 C8.q5 rfl (((),k,a,t24,t25,t26,()),(k0,())),())) (C8.kS (Ay.kR n)) (by kernel_rfl),
   Fx AI (Af hh (hc Es.Kh (hc fields.holds (hc FA.Kh (hc Fm.Kh (hc ES.Kh (hc GN.Kh (hc DW.Kh (hc Tq.Kh (hc NW.Kh (hc Hu.Kh hn))))))))))) Dn.ok (fun t x=>Dn.k0 (Ay.kR n) t x.2.1) (fun c=>(fun t3 t13 t14 t15 k0=>c 3 Dn.q3 rfl (((),t3,t13,t14,t15,()),(k0,())),())) (Dn.kS (Ay.kR n)) (by kernel_rfl),
   (nb.holds (m:=Dn.kq n) h5),
   kh AI (Af hh (hc Es.Kh (hc Fm.Kh (hc FA.Kh (hc GN.Kh (hc ES.Kh hn)))))) KA.ok (by kernel_rfl),
   Fx AI (Af hh (hc FA.Kh (hc GN.Kh (hc Bv.Kh hn)))) ED.ok (fun t x=>ED.k0 (Ay.kR n) t x.2.1) (fun c=>(fun l k0=>c 2 ED.q2 rfl (((),l,()),(k0,())),())) (ED.kS (Ay.kR n)) (by kernel_rfl),
   Fx AI (Af hh (hc Es.Kh (hc Fm.Kh (hc FA.Kh (hc GN.Kh (hc MK.Kh (hc ES.Kh hn))))))) Dp.ok (fun t x=>Dp.k0 (Ay.kR n) t x.1.2.1 x.2.1) (fun c=>(fun t1 k0=>c 1 Dp.q1 rfl (((),t1,()),(k0,())),())) (Dp.kS (Ay.kR n)) (by kernel_rfl),
   (na.holds (m:=J9.kq n) h3),
   trivial⟩
theorem Dz.Ip:Dz.LZ.Holds prog:=(Ay.FD FU).1
end
end Go.Proofs.Tryz
