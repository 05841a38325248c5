/- parser.list in plain words. -/
import Derived.Test.YtkpggdcpaeanaaaGreatDoorMq
import Derived.Test.YtkpggdcpaeanaaaGreatDoorMj
set_option linter.all false
set_option maxRecDepth 100000
namespace Go.Proofs.Tryz
open Go Go.En
noncomputable section
def Bg.cP {R:Type} (x:Int) (p:PS) (out:Int) (f:Int->PS->Option R):Option R:=(Gt.k x p).bind fun y=>(FJ.k 20 y.1.1).bind fun z=>(Cn.k (Dop.AU.mk z.1.1.kind x out z.1.1.c z.1.1.d z.1.1.text z.1.1.n z.1.1.Ad z.1.1.at_) y.2.1).bind fun v=>f v.1.1 v.2.1
def Bg.cO:List Int->PS->Int->Option ((Int×Unit)×(PS×Unit))
 | [],p,out=>some ((out,()),(p,()))
 | x::r,p,out=>Bg.cP x p out fun o q=>Bg.cO r q o
def Bg.k (l:List Int) (p:PS):Option ((Int×Unit)×(PS×Unit)):=match decide (l.length<9223372036854775807) with
 | true=>Bg.cO l.reverse p (-1)
 | false=>none
theorem Bg.Wl (x:Int) (p:PS) (out:Int):Bg.step x ((),(p,((),()),(out,()),()))=Bg.cP x p out fun o q=>some ((),(q,((),()),(o,()),())):=by kernel_rfl
theorem Bg.MW: ∀ (l:List Int) (p:PS) (out:Int),((Bg.go l ((),(p,((),()),(out,()),()))).bind fun y=>some ((y.2.2.2.1.1,()),(y.2.1,())))=Bg.cO l p out
 | [],p,out=>rfl
 | x::r,p,out=>(congrArg (fun z=>(Option.bind z (Bg.go r)).bind fun y=>some ((y.2.2.2.1.1,()),(y.2.1,()))) (Bg.Wl x p out)).trans (by
  unfold Bg.cP
  simp only [Option.bind_assoc,Option.bind_some]
  exact congrArg _ (funext fun y=>congrArg _ (funext fun z=>congrArg _ (funext fun v=>Bg.MW r v.2.1 v.1.1))))
theorem Bg.bA (x):Bg.R x=Bg.k x.1.2.1 x.2.1:=by
 unfold Bg.R Bg.k
 cases decide (x.1.2.1.length<9223372036854775807) with
 | true=>exact Bg.MW _ _ _
 | false=>rfl
def Bg.Kc:Bp Dop.D4:=⟨47,Bg.p.bn,Bg.p.sp,Bg.p.rs,Bg.p.flat,.opt fun x=>Bg.k x.1.2.1 x.2.1⟩
theorem Bg.Kh:Bg.Kc.Holds prog:=R0 Bg.holds (by unfold Bg.Kc Bg.c;rw [show Bg.R=fun x=>Bg.k x.1.2.1 x.2.1 from funext Bg.bA])
end
end Go.Proofs.Tryz
/- Functions in plain words (what their equations say), and their contracts. Written by a program. -/
set_option maxRecDepth 100000
set_option maxHeartbeats 4000000
namespace Go.Proofs.Tryz
open Go Go.En
noncomputable section
def K0.k :FN (List (List UInt8)):=
 CW (([124,124]:List UInt8)::([38,38]:List UInt8)::([124]:List UInt8)::([94]:List UInt8)::([38]:List UInt8)::([61,61,32,33,61]:List UInt8)::([60,32,60,61,32,62,32,62,61]:List UInt8)::([60,60,32,62,62]:List UInt8)::([43,32,45]:List UInt8)::([42,32,47,32,37]:List UInt8)::[])
def K0.Kc:=kd 262 K0.p fun x=>K0.k
theorem K0.Kh:K0.Kc.Holds prog:=kh AH hn K0.ok (by kernel_rfl)
abbrev DV.kr (r:An.T) (k0:PS):R1 Int PS:=r.1 (((),()),(k0,()))
abbrev C2.kr (r:An.T) (k0:PS):R1 Int PS:=r.2.1 (((),(),()),(k0,()))
abbrev Jd.kr (r:An.T) (k0:PS):R1 Int PS:=r.2.2.2.1 (((),()),(k0,()))
abbrev Cu.kr (r:An.T) (k:Int) (k0:PS):R1 Int PS:=r.2.2.2.2.1 (((),k,()),(k0,()))
abbrev DW.kr (r:An.T) (k0:PS):R1 Int PS:=r.2.2.2.2.2.1 (((),()),(k0,()))
abbrev CA.kr (r:An.T) (k0:PS):R1 Int PS:=r.2.2.2.2.2.2.1 (((),(),()),(k0,()))
abbrev Je.kr (r:An.T) (k0:PS):R1 Int PS:=r.2.2.2.2.2.2.2.1 (((),()),(k0,()))
abbrev Dq.kr (r:An.T) (k0:PS):R1 Int PS:=r.2.2.2.2.2.2.2.2.1 (((),()),(k0,()))
abbrev DX.kr (r:An.T) (t1:Int) (k0:PS):R1 Int PS:=r.2.2.2.2.2.2.2.2.2.1 (((),t1,()),(k0,()))
abbrev C3.kr (r:An.T) (k0:PS):R1 Int PS:=r.2.2.2.2.2.2.2.2.2.2.1 (((),(),()),(k0,()))
def DV.kf (rK:An.T) (k0:PS):R1 Int PS:=
 (C2.kr rK k0).bind Gh
abbrev PJ.T:Type:=Int->(List (List UInt8))->Int->Int->PS->R1 Int PS
abbrev Dm.KT:Type:=PJ.T×Unit
def PJ.kB (rK:An.T) (tK:Dm.KT):PJ.T:=fun a t10 t11 t12 k0=>
 let A1:=List.getD t10 t12.toNat []
 ci (t12<t11) (ck (0<=t12/\t12<I t10.length)<|
 ck (t12.toNat<t10.length)<|
 (ET.k k0).bind fun y3=>
 (Cm.k A1 y3.2.1).bind fun y4=>
 ci y4.1.1 ((FJ.k 5 y3.1.1.at_).bind fun y6=>
 (DV.kr rK y4.2.1).bind fun y7=>
 (Cn.k (Dop.AU.mk y6.1.1.kind a y7.1.1 y6.1.1.c y6.1.1.d A1 y6.1.1.n y6.1.1.Ad y6.1.1.at_) y7.2.1).bind Gh)<|
 ck (Au (t12+1))<|
 tK.1 a t10 t11 (t12+1) y4.2.1)<|
 CJ a k0
def Dm.kS (rK:An.T) (tK:Dm.KT):Dm.KT:=(PJ.kB rK tK,())
def Dm.kL (rK:An.T) (n:Nat):Dm.KT:=DA (Dm.kS rK) n
def Dm.k0 (rK:An.T) (tK:Dm.KT) (k0:PS):R1 Int PS:=
 (Jd.kr rK k0).bind fun y2=>
 ck (YT ([61,32,43,61,32,45,61,32,42,61,32,47,61,32,37,61,32,38,61,32,124,61,32,94,61,32,60,60,61,32,62,62,61]:List UInt8) && ((Lib.fields ([61,32,43,61,32,45,61,32,42,61,32,47,61,32,37,61,32,38,61,32,124,61,32,94,61,32,60,60,61,32,62,62,61]:List UInt8)).length<=maxLen))<|
 tK.1 y2.1.1 (List.map (fun (a:List UInt8)=>a) (Lib.fields ([61,32,43,61,32,45,61,32,42,61,32,47,61,32,37,61,32,38,61,32,124,61,32,94,61,32,60,60,61,32,62,62,61]:List UInt8))) (I (List.map (fun (a:List UInt8)=>a) (Lib.fields ([61,32,43,61,32,45,61,32,42,61,32,47,61,32,37,61,32,38,61,32,124,61,32,94,61,32,60,60,61,32,62,62,61]:List UInt8))).length) 0 y2.2.1
def Dm.kf (rK:An.T) (k0:PS):R1 Int PS:=Dm.k0 rK (Dm.kL rK 1000000) k0
def Jd.kf (rK:An.T) (k0:PS):R1 Int PS:=
 (Cu.kr rK 0 k0).bind fun y2=>
 (ET.k y2.2.1).bind fun y3=>
 (Cm.k ([63]:List UInt8) y3.2.1).bind fun y4=>
 ci (!y4.1.1) (CJ y2.1.1 y4.2.1)<|
 (FJ.k 6 y3.1.1.at_).bind fun y6=>
 (DV.kr rK y4.2.1).bind fun y7=>
 (DG.k ([58]:List UInt8) y7.2.1).bind fun y8=>
 (C3.kr rK y8.2.1).bind fun y9=>
 (Cn.k (Dop.AU.mk y6.1.1.kind y2.1.1 y7.1.1 y9.1.1 y6.1.1.d y6.1.1.text y6.1.1.n y6.1.1.Ad y6.1.1.at_) y9.2.1).bind Gh
abbrev PL.T:Type:=Int->Int->PS->R1 Int PS
abbrev PM.T:Type:=Int->Int->(List (List UInt8))->Int->Int->PS->R1 Int PS
abbrev Cu.KT:Type:=PL.T×PM.T×Unit
def PL.kB (rK:An.T) (tK:Cu.KT):PL.T:=fun k a k0=>
 (K0.k).bind fun y2=>
 ck (0<=k/\k<I y2.1.1.length)<|
 ck (k.toNat<y2.1.1.length)<|
 ck (YT (List.getD y2.1.1 k.toNat []) && ((Lib.fields (List.getD y2.1.1 k.toNat [])).length<=maxLen))<|
 tK.2.1 k a (List.map (fun (a:List UInt8)=>a) (Lib.fields (List.getD y2.1.1 k.toNat []))) (I (List.map (fun (a:List UInt8)=>a) (Lib.fields (List.getD y2.1.1 k.toNat []))).length) 0 k0
def PM.kB (rK:An.T) (tK:Cu.KT):PM.T:=fun k a t24 t25 t26 k0=>
 let A1:=List.getD t24 t26.toNat []
 ci (t26<t25) (ck (0<=t26/\t26<I t24.length)<|
 ck (t26.toNat<t24.length)<|
 (ET.k k0).bind fun y3=>
 (Cm.k A1 y3.2.1).bind fun y4=>
 ci y4.1.1 ((FJ.k 4 y3.1.1.at_).bind fun y6=>
 ck (Au (k+1))<|
 (Cu.kr rK (k+1) y4.2.1).bind fun y7=>
 (Cn.k (Dop.AU.mk y6.1.1.kind a y7.1.1 y6.1.1.c y6.1.1.d A1 y6.1.1.n y6.1.1.Ad y6.1.1.at_) y7.2.1).bind fun y8=>
 tK.1 k y8.1.1 y8.2.1)<|
 ck (Au (t26+1))<|
 tK.2.1 k a t24 t25 (t26+1) y4.2.1)<|
 CJ a k0
def Cu.kS (rK:An.T) (tK:Cu.KT):Cu.KT:=(PL.kB rK tK,PM.kB rK tK,())
def Cu.kL (rK:An.T) (n:Nat):Cu.KT:=DA (Cu.kS rK) n
def Cu.k0 (rK:An.T) (tK:Cu.KT) (k:Int) (k0:PS):R1 Int PS:=
 (K0.k).bind fun y2=>
 ci (k=I y2.1.1.length) ((DW.kr rK k0).bind Gh)<|
 ck (Au (k+1))<|
 (Cu.kr rK (k+1) k0).bind fun y4=>
 tK.1 k y4.1.1 y4.2.1
def Cu.kf (rK:An.T) (k:Int) (k0:PS):R1 Int PS:=Cu.k0 rK (Cu.kL rK 1000000) k k0
abbrev PN.T:Type:=Int->(List (List UInt8))->Int->Int->PS->R1 Int PS
abbrev DW.KT:Type:=PN.T×Unit
def PN.kB (rK:An.T) (tK:DW.KT):PN.T:=fun t3 t13 t14 t15 k0=>
 let A1:=List.getD t13 t15.toNat []
 ci (t15<t14) (ck (0<=t15/\t15<I t13.length)<|
 ck (t15.toNat<t13.length)<|
 (Cm.k A1 k0).bind fun y3=>
 ci y3.1.1 ((FJ.k 3 t3).bind fun y5=>
 ci (I A1.length=2) ((CA.kr rK y3.2.1).bind fun y7=>
 (Cn.k (Dop.AU.mk 12 y7.1.1 y5.1.1.b y5.1.1.c y5.1.1.d A1 y5.1.1.n y5.1.1.Ad y5.1.1.at_) y7.2.1).bind Gh)<|
 (CA.kr rK y3.2.1).bind fun y7=>
 (Cn.k (Dop.AU.mk y5.1.1.kind y7.1.1 y5.1.1.b y5.1.1.c y5.1.1.d A1 y5.1.1.n y5.1.1.Ad y5.1.1.at_) y7.2.1).bind Gh)<|
 ck (Au (t15+1))<|
 tK.1 t3 t13 t14 (t15+1) y3.2.1)<|
 (Cm.k ([115,105,122,101,111,102]:List UInt8) k0).bind fun y3=>
 ci y3.1.1 ((FJ.k 11 t3).bind fun y5=>
 (DG.k ([40]:List UInt8) y3.2.1).bind fun y6=>
 (DE.k y6.2.1).bind fun y7=>
 (PZ.k y7.1.1 y7.2.1).bind fun y8=>
 (DG.k ([41]:List UInt8) y8.2.1).bind fun y9=>
 (Cn.k (Dop.AU.mk y5.1.1.kind y5.1.1.a y5.1.1.b y5.1.1.c y5.1.1.d y5.1.1.text y5.1.1.n y8.1.1 y5.1.1.at_) y9.2.1).bind Gh)<|
 (Mq.k ([40]:List UInt8) y3.2.1).bind fun y5=>
 ci y5.1.1 (ck (Au (PS.at_ y5.2.1+1))<|
 ci (PS.at_ y5.2.1+1<I (PS.l y5.2.1).length) (ck (Au (PS.at_ y5.2.1+1))<|
 (HO.k (PS.l y5.2.1) (PS.at_ y5.2.1+1) (PS.top y5.2.1) (PS.deep y5.2.1) (PS.e y5.2.1) (PS.when y5.2.1)).bind fun y8=>
 ci y8.1.1 ((FJ.k 10 t3).bind fun y10=>
 (DG.k ([40]:List UInt8) y5.2.1).bind fun y11=>
 (DE.k y11.2.1).bind fun y12=>
 (DG.k ([41]:List UInt8) y12.2.1).bind fun y13=>
 (CA.kr rK y13.2.1).bind fun y14=>
 (Cn.k (Dop.AU.mk y10.1.1.kind y14.1.1 y10.1.1.b y10.1.1.c y10.1.1.d y10.1.1.text y10.1.1.n y12.1.1 y10.1.1.at_) y14.2.1).bind Gh)<|
 (Je.kr rK y5.2.1).bind fun y10=>
 (DX.kr rK y10.1.1 y10.2.1).bind Gh)<|
 (Je.kr rK y5.2.1).bind fun y8=>
 (DX.kr rK y8.1.1 y8.2.1).bind Gh)<|
 (Je.kr rK y5.2.1).bind fun y7=>
 (DX.kr rK y7.1.1 y7.2.1).bind Gh
def DW.kS (rK:An.T) (tK:DW.KT):DW.KT:=(PN.kB rK tK,())
def DW.kL (rK:An.T) (n:Nat):DW.KT:=DA (DW.kS rK) n
def DW.k0 (rK:An.T) (tK:DW.KT) (k0:PS):R1 Int PS:=
 (ET.k k0).bind fun y2=>
 ck (YT ([43,43,32,45,45,32,45,32,33,32,126,32,42,32,38]:List UInt8) && ((Lib.fields ([43,43,32,45,45,32,45,32,33,32,126,32,42,32,38]:List UInt8)).length<=maxLen))<|
 tK.1 y2.1.1.at_ (List.map (fun (a:List UInt8)=>a) (Lib.fields ([43,43,32,45,45,32,45,32,33,32,126,32,42,32,38]:List UInt8))) (I (List.map (fun (a:List UInt8)=>a) (Lib.fields ([43,43,32,45,45,32,45,32,33,32,126,32,42,32,38]:List UInt8))).length) 0 y2.2.1
def DW.kf (rK:An.T) (k0:PS):R1 Int PS:=DW.k0 rK (DW.kL rK 1000000) k0
def Je.kf (rK:An.T) (k0:PS):R1 Int PS:=
 (ET.k k0).bind fun y2=>
 (FJ.k 1 y2.1.1.at_).bind fun y3=>
 ci (y2.1.1.kind=3) (ck (Au (PS.at_ y2.2.1+1))<|
 (Cn.k (Dop.AU.mk y3.1.1.kind y3.1.1.a y3.1.1.b y3.1.1.c y3.1.1.d y3.1.1.text y2.1.1.n y3.1.1.Ad y3.1.1.at_) ((PS.T9 y2.2.1 (PS.at_ y2.2.1+1)))).bind Gh)<|
 ci (y2.1.1.kind=1) (ck (Au (PS.at_ y2.2.1+1))<|
 (Cm.k ([40]:List UInt8) ((PS.T9 y2.2.1 (PS.at_ y2.2.1+1)))).bind fun y6=>
 ci y6.1.1 ((Dq.kr rK y6.2.1).bind fun y8=>
 (Cn.k (Dop.AU.mk 9 y8.1.1 y3.1.1.b y3.1.1.c y3.1.1.d y2.1.1.text y3.1.1.n y3.1.1.Ad y3.1.1.at_) y8.2.1).bind Gh)<|
 (Cn.k (Dop.AU.mk 2 y3.1.1.a y3.1.1.b y3.1.1.c y3.1.1.d y2.1.1.text y3.1.1.n y3.1.1.Ad y3.1.1.at_) y6.2.1).bind Gh)<|
 (Cm.k ([40]:List UInt8) y2.2.1).bind fun y6=>
 ci y6.1.1 ((DV.kr rK y6.2.1).bind fun y8=>
 (DG.k ([41]:List UInt8) y8.2.1).bind fun y9=>
 CJ y8.1.1 y9.2.1)<|
 (Cm.k ([103,101,116,99]:List UInt8) y6.2.1).bind fun y8=>
 ci y8.1.1 ((DG.k ([40]:List UInt8) y8.2.1).bind fun y10=>
 (DG.k ([41]:List UInt8) y10.2.1).bind fun y11=>
 (Cn.k (Dop.AU.mk 14 y3.1.1.a y3.1.1.b y3.1.1.c y3.1.1.d y3.1.1.text y3.1.1.n y3.1.1.Ad y3.1.1.at_) y11.2.1).bind Gh)<|
 (DG.k ([112,117,116,99]:List UInt8) y8.2.1).bind fun y10=>
 (DG.k ([40]:List UInt8) y10.2.1).bind fun y11=>
 (DV.kr rK y11.2.1).bind fun y12=>
 (DG.k ([41]:List UInt8) y12.2.1).bind fun y13=>
 (Cn.k (Dop.AU.mk 15 y12.1.1 y3.1.1.b y3.1.1.c y3.1.1.d y3.1.1.text y3.1.1.n y3.1.1.Ad y3.1.1.at_) y13.2.1).bind Gh
abbrev PQ.T:Type:=List Int->PS->R1 Int PS
abbrev Dq.KT:Type:=PQ.T×Unit
def PQ.kB (rK:An.T) (tK:Dq.KT):PQ.T:=fun l k0=>
 let F1:Y1 Int PS->R1 Int PS:=fun y6=>
 ck (Cq none (room 8 (l.length+(y6.1.1::[]).length)))<|
 tK.1 (l++y6.1.1::[]) y6.2.1
 (Cm.k ([41]:List UInt8) k0).bind fun y2=>
 ci (!y2.1.1) (ci (PS.e y2.2.1=0) (ci (0<I l.length) ((DG.k ([44]:List UInt8) y2.2.1).bind fun y6=>
 (DV.kr rK y6.2.1).bind F1)<|
 (DV.kr rK y2.2.1).bind F1)<|
 (Bg.k l y2.2.1).bind Gh)<|
 (Bg.k l y2.2.1).bind Gh
def Dq.kS (rK:An.T) (tK:Dq.KT):Dq.KT:=(PQ.kB rK tK,())
def Dq.kL (rK:An.T) (n:Nat):Dq.KT:=DA (Dq.kS rK) n
def Dq.k0 (rK:An.T) (tK:Dq.KT) (k0:PS):R1 Int PS:=
 tK.1 [] k0
def Dq.kf (rK:An.T) (k0:PS):R1 Int PS:=Dq.k0 rK (Dq.kL rK 1000000) k0
abbrev PO.T:Type:=Int->PS->R1 Int PS
abbrev DX.KT:Type:=PO.T×Unit
def PO.kB (rK:An.T) (tK:DX.KT):PO.T:=fun t1 k0=>
 ci (k0.e=0) ((ET.k k0).bind fun y3=>
 (FJ.k 7 y3.1.1.at_).bind fun y4=>
 (Cm.k ([91]:List UInt8) y3.2.1).bind fun y5=>
 ci y5.1.1 ((DV.kr rK y5.2.1).bind fun y7=>
 (DG.k ([93]:List UInt8) y7.2.1).bind fun y8=>
 (Cn.k (Dop.AU.mk y4.1.1.kind t1 y7.1.1 y4.1.1.c y4.1.1.d y4.1.1.text y4.1.1.n y4.1.1.Ad y4.1.1.at_) y8.2.1).bind fun y9=>
 tK.1 y9.1.1 y9.2.1)<|
 (Cm.k ([46]:List UInt8) y5.2.1).bind fun y7=>
 ci y7.1.1 (ci y7.1.1 (ck (Au (PS.at_ y7.2.1 -1))<|
 ck (0<=PS.at_ y7.2.1 -1/\PS.at_ y7.2.1 -1<I (PS.l y7.2.1).length)<|
 ci ((List.getD (PS.l y7.2.1) (PS.at_ y7.2.1 -1).toNat Dop.d4).text=(45:UInt8)::(62:UInt8)::[]) ((IB.k 1 y7.2.1).bind fun y11=>
 (Cn.k (Dop.AU.mk 8 t1 y4.1.1.b y4.1.1.c y4.1.1.d y11.1.1.text 1 y4.1.1.Ad y4.1.1.at_) y11.2.1).bind fun y12=>
 tK.1 y12.1.1 y12.2.1)<|
 (IB.k 1 y7.2.1).bind fun y11=>
 (Cn.k (Dop.AU.mk 8 t1 y4.1.1.b y4.1.1.c y4.1.1.d y11.1.1.text y4.1.1.n y4.1.1.Ad y4.1.1.at_) y11.2.1).bind fun y12=>
 tK.1 y12.1.1 y12.2.1)<|
 (Cm.k ([43,43]:List UInt8) y7.2.1).bind fun y10=>
 ci y10.1.1 (ci y10.1.1 (ck (Au (PS.at_ y10.2.1 -1))<|
 ck (0<=PS.at_ y10.2.1 -1/\PS.at_ y10.2.1 -1<I (PS.l y10.2.1).length)<|
 (Cn.k (Dop.AU.mk 13 t1 y4.1.1.b y4.1.1.c y4.1.1.d (List.getD (PS.l y10.2.1) (PS.at_ y10.2.1 -1).toNat Dop.d4).text y4.1.1.n y4.1.1.Ad y4.1.1.at_) y10.2.1).bind fun y13=>
 tK.1 y13.1.1 y13.2.1)<|
 CJ t1 y10.2.1)<|
 (Cm.k ([45,45]:List UInt8) y10.2.1).bind fun y12=>
 ci y12.1.1 (ck (Au (PS.at_ y12.2.1 -1))<|
 ck (0<=PS.at_ y12.2.1 -1/\PS.at_ y12.2.1 -1<I (PS.l y12.2.1).length)<|
 (Cn.k (Dop.AU.mk 13 t1 y4.1.1.b y4.1.1.c y4.1.1.d (List.getD (PS.l y12.2.1) (PS.at_ y12.2.1 -1).toNat Dop.d4).text y4.1.1.n y4.1.1.Ad y4.1.1.at_) y12.2.1).bind fun y14=>
 tK.1 y14.1.1 y14.2.1)<|
 CJ t1 y12.2.1)<|
 (Cm.k ([45,62]:List UInt8) y7.2.1).bind fun y9=>
 ci y9.1.1 (ck (Au (PS.at_ y9.2.1 -1))<|
 ck (0<=PS.at_ y9.2.1 -1/\PS.at_ y9.2.1 -1<I (PS.l y9.2.1).length)<|
 ci ((List.getD (PS.l y9.2.1) (PS.at_ y9.2.1 -1).toNat Dop.d4).text=(45:UInt8)::(62:UInt8)::[]) ((IB.k 1 y9.2.1).bind fun y12=>
 (Cn.k (Dop.AU.mk 8 t1 y4.1.1.b y4.1.1.c y4.1.1.d y12.1.1.text 1 y4.1.1.Ad y4.1.1.at_) y12.2.1).bind fun y13=>
 tK.1 y13.1.1 y13.2.1)<|
 (IB.k 1 y9.2.1).bind fun y12=>
 (Cn.k (Dop.AU.mk 8 t1 y4.1.1.b y4.1.1.c y4.1.1.d y12.1.1.text y4.1.1.n y4.1.1.Ad y4.1.1.at_) y12.2.1).bind fun y13=>
 tK.1 y13.1.1 y13.2.1)<|
 (Cm.k ([43,43]:List UInt8) y9.2.1).bind fun y11=>
 ci y11.1.1 (ci y11.1.1 (ck (Au (PS.at_ y11.2.1 -1))<|
 ck (0<=PS.at_ y11.2.1 -1/\PS.at_ y11.2.1 -1<I (PS.l y11.2.1).length)<|
 (Cn.k (Dop.AU.mk 13 t1 y4.1.1.b y4.1.1.c y4.1.1.d (List.getD (PS.l y11.2.1) (PS.at_ y11.2.1 -1).toNat Dop.d4).text y4.1.1.n y4.1.1.Ad y4.1.1.at_) y11.2.1).bind fun y14=>
 tK.1 y14.1.1 y14.2.1)<|
 CJ t1 y11.2.1)<|
 (Cm.k ([45,45]:List UInt8) y11.2.1).bind fun y13=>
 ci y13.1.1 (ck (Au (PS.at_ y13.2.1 -1))<|
 ck (0<=PS.at_ y13.2.1 -1/\PS.at_ y13.2.1 -1<I (PS.l y13.2.1).length)<|
 (Cn.k (Dop.AU.mk 13 t1 y4.1.1.b y4.1.1.c y4.1.1.d (List.getD (PS.l y13.2.1) (PS.at_ y13.2.1 -1).toNat Dop.d4).text y4.1.1.n y4.1.1.Ad y4.1.1.at_) y13.2.1).bind fun y15=>
 tK.1 y15.1.1 y15.2.1)<|
 CJ t1 y13.2.1)<|
 CJ (-1) k0
def DX.kS (rK:An.T) (tK:DX.KT):DX.KT:=(PO.kB rK tK,())
def DX.kL (rK:An.T) (n:Nat):DX.KT:=DA (DX.kS rK) n
def DX.k0 (rK:An.T) (tK:DX.KT) (t1:Int) (k0:PS):R1 Int PS:=
 tK.1 t1 k0
def DX.kf (rK:An.T) (t1:Int) (k0:PS):R1 Int PS:=DX.k0 rK (DX.kL rK 1000000) t1 k0
def An.kS (r:An.T):An.T:=(fun x=>DV.kf r x.2.1,fun x=>within r.2.2.1 x.2.1,fun x=>Dm.kf r x.2.1,fun x=>Jd.kf r x.2.1,fun x=>Cu.kf r x.1.2.1 x.2.1,fun x=>DW.kf r x.2.1,fun x=>within r.2.2.2.2.2.1 x.2.1,fun x=>Je.kf r x.2.1,fun x=>Dq.kf r x.2.1,fun x=>DX.kf r x.1.2.1 x.2.1,fun x=>within r.2.2.2.1 x.2.1,())
def An.kR (n:Nat):An.T:=DA An.kS n
def DV.Kc (n:Nat):=kd 205 DV.p (An.kR n).1
def DV.Lv:=DV.Kc FU
def DV.k:=DV.kr (An.kR FU)
def C2.Kc (n:Nat):=kd 180 C2.p (An.kR n).2.1
abbrev Dm.kq (n:Nat):((Unit×Unit)×(PS×Unit))->Option ((Int×Unit)×(PS×Unit)):=(An.kR n).2.2.1
def Dm.Kc (n:Nat):=kd 234 Dm.p (An.kR n).2.2.1
abbrev Jd.kq (n:Nat):((Unit×Unit)×(PS×Unit))->Option ((Int×Unit)×(PS×Unit)):=(An.kR n).2.2.2.1
def Jd.Kc (n:Nat):=kd 254 Jd.p (An.kR n).2.2.2.1
def Cu.Kc (n:Nat):=kd 261 Cu.p (An.kR n).2.2.2.2.1
abbrev DW.kq (n:Nat):((Unit×Unit)×(PS×Unit))->Option ((Int×Unit)×(PS×Unit)):=(An.kR n).2.2.2.2.2.1
def DW.Kc (n:Nat):=kd 263 DW.p (An.kR n).2.2.2.2.2.1
def CA.Kc (n:Nat):=kd 180 CA.p (An.kR n).2.2.2.2.2.2.1
def Je.Kc (n:Nat):=kd 265 Je.p (An.kR n).2.2.2.2.2.2.2.1
def Dq.Kc (n:Nat):=kd 266 Dq.p (An.kR n).2.2.2.2.2.2.2.2.1
def DX.Kc (n:Nat):=kd 264 DX.p (An.kR n).2.2.2.2.2.2.2.2.2.1
def C3.Kc (n:Nat):=kd 180 C3.p (An.kR n).2.2.2.2.2.2.2.2.2.2.1
def An.RY (n:Nat):List (Bp Dop.D4):=[DV.Kc n,C2.Kc n,Dm.Kc n,Jd.Kc n,Cu.Kc n,DW.Kc n,CA.Kc n,Je.Kc n,Dq.Kc n,DX.Kc n,C3.Kc n]
theorem An.Ej: ∀ n,(DV.Kc n).Holds prog/\(C2.Kc n).Holds prog/\(Dm.Kc n).Holds prog/\(Jd.Kc n).Holds prog/\(Cu.Kc n).Holds prog/\(DW.Kc n).Holds prog/\(CA.Kc n).Holds prog/\(Je.Kc n).Holds prog/\(Dq.Kc n).Holds prog/\(DX.Kc n).Holds prog/\(C3.Kc n).Holds prog/\True
 | 0=>⟨AN AH DV.ok,AN AH (by kernel_rfl),AN AH Dm.ok,AN AH Jd.ok,AN AH Cu.ok,AN AH DW.ok,AN AH (by kernel_rfl),AN AH Je.ok,AN AH Dq.ok,AN AH DX.ok,AN AH (by kernel_rfl),trivial⟩
 | n+1=>by
  obtain ⟨h0,h1,h2,h3,h4,h5,h6,h7,h8,h9,h10,_⟩:=An.Ej n
  have hh: ∀ c∈An.RY n,c.Holds prog:=(hc h0 (hc h1 (hc h2 (hc h3 (hc h4 (hc h5 (hc h6 (hc h7 (hc h8 (hc h9 (hc h10 hn)))))))))))
  exact ⟨kh AH (Ab hh hn) DV.ok (by kernel_rfl),
   (ju.holds (m:=Dm.kq n) h2),
   GD AH (Ab hh (hc fields.holds (hc ET.Kh (hc Cm.Kh (hc FJ.Kh (hc Cn.Kh hn)))))) Dm.ok (fun t x=>Dm.k0 (An.kR n) t x.2.1) (fun c=>(fun a t10 t11 t12 k0=>c 3 Dm.q3 rfl (((),a,t10,t11,t12,()),(k0,())),())) (Dm.kS (An.kR n)) (by kernel_rfl),
   kh AH (Ab hh (hc ET.Kh (hc Cm.Kh (hc FJ.Kh (hc DG.Kh (hc Cn.Kh hn)))))) Jd.ok (by kernel_rfl),
   GD AH (Ab hh (hc K0.Kh (hc fields.holds (hc ET.Kh (hc Cm.Kh (hc FJ.Kh (hc Cn.Kh hn))))))) Cu.ok (fun t x=>Cu.k0 (An.kR n) t x.1.2.1 x.2.1) (fun c=>(fun k a k0=>c 4 Cu.q4 rfl (((),k,a,()),(k0,())),fun k a t24 t25 t26 k0=>c 5 Cu.q5 rfl (((),k,a,t24,t25,t26,()),(k0,())),())) (Cu.kS (An.kR n)) (by kernel_rfl),
   GD AH (Ab hh (hc ET.Kh (hc fields.holds (hc Cm.Kh (hc FJ.Kh (hc Cn.Kh (hc DG.Kh (hc DE.Kh (hc PZ.Kh (hc Mq.Kh (hc HO.Kh hn))))))))))) DW.ok (fun t x=>DW.k0 (An.kR n) t x.2.1) (fun c=>(fun t3 t13 t14 t15 k0=>c 3 DW.q3 rfl (((),t3,t13,t14,t15,()),(k0,())),())) (DW.kS (An.kR n)) (by kernel_rfl),
   (jw.holds (m:=DW.kq n) h5),
   kh AH (Ab hh (hc ET.Kh (hc FJ.Kh (hc Cm.Kh (hc DG.Kh (hc Cn.Kh hn)))))) Je.ok (by kernel_rfl),
   GD AH (Ab hh (hc Cm.Kh (hc DG.Kh (hc Bg.Kh hn)))) Dq.ok (fun t x=>Dq.k0 (An.kR n) t x.2.1) (fun c=>(fun l k0=>c 2 Dq.q2 rfl (((),l,()),(k0,())),())) (Dq.kS (An.kR n)) (by kernel_rfl),
   GD AH (Ab hh (hc ET.Kh (hc FJ.Kh (hc Cm.Kh (hc DG.Kh (hc IB.Kh (hc Cn.Kh hn))))))) DX.ok (fun t x=>DX.k0 (An.kR n) t x.1.2.1 x.2.1) (fun c=>(fun t1 k0=>c 1 DX.q1 rfl (((),t1,()),(k0,())),())) (DX.kS (An.kR n)) (by kernel_rfl),
   (jv.holds (m:=Jd.kq n) h3),
   trivial⟩
theorem DV.ID:DV.Lv.Holds prog:=(An.Ej FU).1
end
end Go.Proofs.Tryz
