/- parser.list in plain words. -/
import Derived.Test.YtkpggdcpaeanaaaGreatDoorMq
import Derived.Test.YtkpggdcpaeanaaaGreatDoorMj
set_option maxRecDepth 100000
namespace Go.Proofs.Tryz
open Go Go.En
noncomputable section
def Bj.bF {R:Type} (x:Int) (p:PS) (out:Int) (f:Int→PS→Option R):Option R:=(Gk.k x p).bind fun y=>(FA.k 20 y.1.1).bind fun z=>(Co.k (Dop.Aa.mk z.1.1.kind x out z.1.1.c z.1.1.d z.1.1.text z.1.1.n z.1.1.AW z.1.1.at_) y.2.1).bind fun v=>f v.1.1 v.2.1
def Bj.bE:List Int→PS→Int→Option ((Int×Unit)×(PS×Unit))
 | [],p,out=>some ((out,()),(p,()))
 | x::r,p,out=>Bj.bF x p out fun o q=>Bj.bE r q o
def Bj.k (l:List Int) (p:PS):Option ((Int×Unit)×(PS×Unit)):=match decide (l.length<9223372036854775807) with
 | true=>Bj.bE l.reverse p (-1)
 | false=>none
theorem Bj.Vc (x:Int) (p:PS) (out:Int):Bj.step x ((),(p,((),()),(out,()),()))=Bj.bF x p out fun o q=>some ((),(q,((),()),(o,()),())):=by kernel_rfl
theorem Bj.Lj: ∀ (l:List Int) (p:PS) (out:Int),((Bj.go l ((),(p,((),()),(out,()),()))).bind fun y=>some ((y.2.2.2.1.1,()),(y.2.1,())))=Bj.bE l p out
 | [],p,out=>rfl
 | x::r,p,out=>(congrArg (fun z=>(Option.bind z (Bj.go r)).bind fun y=>some ((y.2.2.2.1.1,()),(y.2.1,()))) (Bj.Vc x p out)).trans (by
  unfold Bj.bF
  simp only [Option.bind_assoc,Option.bind_some]
  exact congrArg _ (funext fun y=>congrArg _ (funext fun z=>congrArg _ (funext fun v=>Bj.Lj r v.2.1 v.1.1))))
theorem Bj.ZL (x):Bj.R x=Bj.k x.1.2.1 x.2.1:=by
 unfold Bj.R Bj.k
 cases decide (x.1.2.1.length<9223372036854775807) with
 | true=>exact Bj.Lj _ _ _
 | false=>rfl
def Bj.Kc:Bw Dop.D4:=⟨47,Bj.p.bn,Bj.p.sp,Bj.p.rs,Bj.p.flat,.opt fun x=>Bj.k x.1.2.1 x.2.1⟩
theorem Bj.Kh:Bj.Kc.Holds prog:=Qz Bj.holds (by unfold Bj.Kc Bj.c;rw [show Bj.R=fun x=>Bj.k x.1.2.1 x.2.1 from funext Bj.ZL])
end
end Go.Proofs.Tryz
/- Functions in plain words (what their equations say), and their contracts. Written by a program. -/
set_option maxRecDepth 100000
set_option maxHeartbeats 4000000
namespace Go.Proofs.Tryz
open Go Go.En
noncomputable section
def KS.k :Gh (List (List UInt8)):=
 Fx (([124,124]:List UInt8)::([38,38]:List UInt8)::([124]:List UInt8)::([94]:List UInt8)::([38]:List UInt8)::([61,61,32,33,61]:List UInt8)::([60,32,60,61,32,62,32,62,61]:List UInt8)::([60,60,32,62,62]:List UInt8)::([43,32,45]:List UInt8)::([42,32,47,32,37]:List UInt8)::[])
def KS.Kc:=kd 262 KS.p fun x=>KS.k
theorem KS.Kh:KS.Kc.Holds prog:=kh AJ hn KS.ok (by kernel_rfl)
abbrev DU.kr (r:An.T) (k0:PS):R1 Int PS:=r.1 (((),()),(k0,()))
abbrev C2.kr (r:An.T) (k0:PS):R1 Int PS:=r.2.1 (((),(),()),(k0,()))
abbrev I4.kr (r:An.T) (k0:PS):R1 Int PS:=r.2.2.2.1 (((),()),(k0,()))
abbrev Cv.kr (r:An.T) (k:Int) (k0:PS):R1 Int PS:=r.2.2.2.2.1 (((),k,()),(k0,()))
abbrev DV.kr (r:An.T) (k0:PS):R1 Int PS:=r.2.2.2.2.2.1 (((),()),(k0,()))
abbrev CF.kr (r:An.T) (k0:PS):R1 Int PS:=r.2.2.2.2.2.2.1 (((),(),()),(k0,()))
abbrev I5.kr (r:An.T) (k0:PS):R1 Int PS:=r.2.2.2.2.2.2.2.1 (((),()),(k0,()))
abbrev Dn.kr (r:An.T) (k0:PS):R1 Int PS:=r.2.2.2.2.2.2.2.2.1 (((),()),(k0,()))
abbrev DW.kr (r:An.T) (t1:Int) (k0:PS):R1 Int PS:=r.2.2.2.2.2.2.2.2.2.1 (((),t1,()),(k0,()))
abbrev C3.kr (r:An.T) (k0:PS):R1 Int PS:=r.2.2.2.2.2.2.2.2.2.2.1 (((),(),()),(k0,()))
def DU.kf (rK:An.T) (k0:PS):R1 Int PS:=
 (C2.kr rK k0).bind Ga
abbrev OL.T:Type:=Int→(List (List UInt8))→Int→Int→PS→R1 Int PS
abbrev Dl.KT:Type:=OL.T×Unit
def OL.kB (rK:An.T) (tK:Dl.KT):OL.T:=fun a t10 t11 t12 k0=>
 let A1:=List.getD t10 t12.toNat []
 ci (t12<t11) (ck (0≤t12∧t12<I t10.length)<|
 ck (t12.toNat<t10.length)<|
 (ES.k k0).bind fun y3=>
 (Cn.k A1 y3.2.1).bind fun y4=>
 ci y4.1.1 ((FA.k 5 y3.1.1.at_).bind fun y6=>
 (DU.kr rK y4.2.1).bind fun y7=>
 (Co.k (Dop.Aa.mk y6.1.1.kind a y7.1.1 y6.1.1.c y6.1.1.d A1 y6.1.1.n y6.1.1.AW y6.1.1.at_) y7.2.1).bind Ga)<|
 ck (Av (t12+1))<|
 tK.1 a t10 t11 (t12+1) y4.2.1)<|
 Cs a k0
def Dl.kS (rK:An.T) (tK:Dl.KT):Dl.KT:=(OL.kB rK tK,())
def Dl.kL (rK:An.T) (n:Nat):Dl.KT:=Eu (Dl.kS rK) n
def Dl.k0 (rK:An.T) (tK:Dl.KT) (k0:PS):R1 Int PS:=
 (I4.kr rK k0).bind fun y2=>
 ck (Y5 ([61,32,43,61,32,45,61,32,42,61,32,47,61,32,37,61,32,38,61,32,124,61,32,94,61,32,60,60,61,32,62,62,61]:List UInt8) && ((Lib.fields ([61,32,43,61,32,45,61,32,42,61,32,47,61,32,37,61,32,38,61,32,124,61,32,94,61,32,60,60,61,32,62,62,61]:List UInt8)).length≤maxLen))<|
 tK.1 y2.1.1 (List.map (fun (a:List UInt8)=>a) (Lib.fields ([61,32,43,61,32,45,61,32,42,61,32,47,61,32,37,61,32,38,61,32,124,61,32,94,61,32,60,60,61,32,62,62,61]:List UInt8))) (I (List.map (fun (a:List UInt8)=>a) (Lib.fields ([61,32,43,61,32,45,61,32,42,61,32,47,61,32,37,61,32,38,61,32,124,61,32,94,61,32,60,60,61,32,62,62,61]:List UInt8))).length) 0 y2.2.1
def Dl.kf (rK:An.T) (k0:PS):R1 Int PS:=Dl.k0 rK (Dl.kL rK 1000000) k0
def I4.kf (rK:An.T) (k0:PS):R1 Int PS:=
 (Cv.kr rK 0 k0).bind fun y2=>
 (ES.k y2.2.1).bind fun y3=>
 (Cn.k ([63]:List UInt8) y3.2.1).bind fun y4=>
 ci (!y4.1.1) (Cs y2.1.1 y4.2.1)<|
 (FA.k 6 y3.1.1.at_).bind fun y6=>
 (DU.kr rK y4.2.1).bind fun y7=>
 (DE.k ([58]:List UInt8) y7.2.1).bind fun y8=>
 (C3.kr rK y8.2.1).bind fun y9=>
 (Co.k (Dop.Aa.mk y6.1.1.kind y2.1.1 y7.1.1 y9.1.1 y6.1.1.d y6.1.1.text y6.1.1.n y6.1.1.AW y6.1.1.at_) y9.2.1).bind Ga
abbrev ON.T:Type:=Int→Int→PS→R1 Int PS
abbrev OO.T:Type:=Int→Int→(List (List UInt8))→Int→Int→PS→R1 Int PS
abbrev Cv.KT:Type:=ON.T×OO.T×Unit
def ON.kB (rK:An.T) (tK:Cv.KT):ON.T:=fun k a k0=>
 (KS.k).bind fun y2=>
 ck (0≤k∧k<I y2.1.1.length)<|
 ck (k.toNat<y2.1.1.length)<|
 ck (Y5 (List.getD y2.1.1 k.toNat []) && ((Lib.fields (List.getD y2.1.1 k.toNat [])).length≤maxLen))<|
 tK.2.1 k a (List.map (fun (a:List UInt8)=>a) (Lib.fields (List.getD y2.1.1 k.toNat []))) (I (List.map (fun (a:List UInt8)=>a) (Lib.fields (List.getD y2.1.1 k.toNat []))).length) 0 k0
def OO.kB (rK:An.T) (tK:Cv.KT):OO.T:=fun k a t24 t25 t26 k0=>
 let A1:=List.getD t24 t26.toNat []
 ci (t26<t25) (ck (0≤t26∧t26<I t24.length)<|
 ck (t26.toNat<t24.length)<|
 (ES.k k0).bind fun y3=>
 (Cn.k A1 y3.2.1).bind fun y4=>
 ci y4.1.1 ((FA.k 4 y3.1.1.at_).bind fun y6=>
 ck (Av (k+1))<|
 (Cv.kr rK (k+1) y4.2.1).bind fun y7=>
 (Co.k (Dop.Aa.mk y6.1.1.kind a y7.1.1 y6.1.1.c y6.1.1.d A1 y6.1.1.n y6.1.1.AW y6.1.1.at_) y7.2.1).bind fun y8=>
 tK.1 k y8.1.1 y8.2.1)<|
 ck (Av (t26+1))<|
 tK.2.1 k a t24 t25 (t26+1) y4.2.1)<|
 Cs a k0
def Cv.kS (rK:An.T) (tK:Cv.KT):Cv.KT:=(ON.kB rK tK,OO.kB rK tK,())
def Cv.kL (rK:An.T) (n:Nat):Cv.KT:=Eu (Cv.kS rK) n
def Cv.k0 (rK:An.T) (tK:Cv.KT) (k:Int) (k0:PS):R1 Int PS:=
 (KS.k).bind fun y2=>
 ci (k=I y2.1.1.length) ((DV.kr rK k0).bind Ga)<|
 ck (Av (k+1))<|
 (Cv.kr rK (k+1) k0).bind fun y4=>
 tK.1 k y4.1.1 y4.2.1
def Cv.kf (rK:An.T) (k:Int) (k0:PS):R1 Int PS:=Cv.k0 rK (Cv.kL rK 1000000) k k0
abbrev OP.T:Type:=Int→(List (List UInt8))→Int→Int→PS→R1 Int PS
abbrev DV.KT:Type:=OP.T×Unit
def OP.kB (rK:An.T) (tK:DV.KT):OP.T:=fun t3 t13 t14 t15 k0=>
 let A1:=List.getD t13 t15.toNat []
 ci (t15<t14) (ck (0≤t15∧t15<I t13.length)<|
 ck (t15.toNat<t13.length)<|
 (Cn.k A1 k0).bind fun y3=>
 ci y3.1.1 ((FA.k 3 t3).bind fun y5=>
 ci (I A1.length=2) ((CF.kr rK y3.2.1).bind fun y7=>
 (Co.k (Dop.Aa.mk 12 y7.1.1 y5.1.1.b y5.1.1.c y5.1.1.d A1 y5.1.1.n y5.1.1.AW y5.1.1.at_) y7.2.1).bind Ga)<|
 (CF.kr rK y3.2.1).bind fun y7=>
 (Co.k (Dop.Aa.mk y5.1.1.kind y7.1.1 y5.1.1.b y5.1.1.c y5.1.1.d A1 y5.1.1.n y5.1.1.AW y5.1.1.at_) y7.2.1).bind Ga)<|
 ck (Av (t15+1))<|
 tK.1 t3 t13 t14 (t15+1) y3.2.1)<|
 (Cn.k ([115,105,122,101,111,102]:List UInt8) k0).bind fun y3=>
 ci y3.1.1 ((FA.k 11 t3).bind fun y5=>
 (DE.k ([40]:List UInt8) y3.2.1).bind fun y6=>
 (DD.k y6.2.1).bind fun y7=>
 (OZ.k y7.1.1 y7.2.1).bind fun y8=>
 (DE.k ([41]:List UInt8) y8.2.1).bind fun y9=>
 (Co.k (Dop.Aa.mk y5.1.1.kind y5.1.1.a y5.1.1.b y5.1.1.c y5.1.1.d y5.1.1.text y5.1.1.n y8.1.1 y5.1.1.at_) y9.2.1).bind Ga)<|
 (Lz.k ([40]:List UInt8) y3.2.1).bind fun y5=>
 ci y5.1.1 (ck (Av (PS.at_ y5.2.1+1))<|
 ci (PS.at_ y5.2.1+1<I (PS.l y5.2.1).length) (ck (Av (PS.at_ y5.2.1+1))<|
 (G6.k (PS.l y5.2.1) (PS.at_ y5.2.1+1) (PS.top y5.2.1) (PS.deep y5.2.1) (PS.e y5.2.1) (PS.when y5.2.1)).bind fun y8=>
 ci y8.1.1 ((FA.k 10 t3).bind fun y10=>
 (DE.k ([40]:List UInt8) y5.2.1).bind fun y11=>
 (DD.k y11.2.1).bind fun y12=>
 (DE.k ([41]:List UInt8) y12.2.1).bind fun y13=>
 (CF.kr rK y13.2.1).bind fun y14=>
 (Co.k (Dop.Aa.mk y10.1.1.kind y14.1.1 y10.1.1.b y10.1.1.c y10.1.1.d y10.1.1.text y10.1.1.n y12.1.1 y10.1.1.at_) y14.2.1).bind Ga)<|
 (I5.kr rK y5.2.1).bind fun y10=>
 (DW.kr rK y10.1.1 y10.2.1).bind Ga)<|
 (I5.kr rK y5.2.1).bind fun y8=>
 (DW.kr rK y8.1.1 y8.2.1).bind Ga)<|
 (I5.kr rK y5.2.1).bind fun y7=>
 (DW.kr rK y7.1.1 y7.2.1).bind Ga
def DV.kS (rK:An.T) (tK:DV.KT):DV.KT:=(OP.kB rK tK,())
def DV.kL (rK:An.T) (n:Nat):DV.KT:=Eu (DV.kS rK) n
def DV.k0 (rK:An.T) (tK:DV.KT) (k0:PS):R1 Int PS:=
 (ES.k k0).bind fun y2=>
 ck (Y5 ([43,43,32,45,45,32,45,32,33,32,126,32,42,32,38]:List UInt8) && ((Lib.fields ([43,43,32,45,45,32,45,32,33,32,126,32,42,32,38]:List UInt8)).length≤maxLen))<|
 tK.1 y2.1.1.at_ (List.map (fun (a:List UInt8)=>a) (Lib.fields ([43,43,32,45,45,32,45,32,33,32,126,32,42,32,38]:List UInt8))) (I (List.map (fun (a:List UInt8)=>a) (Lib.fields ([43,43,32,45,45,32,45,32,33,32,126,32,42,32,38]:List UInt8))).length) 0 y2.2.1
def DV.kf (rK:An.T) (k0:PS):R1 Int PS:=DV.k0 rK (DV.kL rK 1000000) k0
def I5.kf (rK:An.T) (k0:PS):R1 Int PS:=
 (ES.k k0).bind fun y2=>
 (FA.k 1 y2.1.1.at_).bind fun y3=>
 ci (y2.1.1.kind=3) (ck (Av (PS.at_ y2.2.1+1))<|
 (Co.k (Dop.Aa.mk y3.1.1.kind y3.1.1.a y3.1.1.b y3.1.1.c y3.1.1.d y3.1.1.text y2.1.1.n y3.1.1.AW y3.1.1.at_) ((PS.S5 y2.2.1 (PS.at_ y2.2.1+1)))).bind Ga)<|
 ci (y2.1.1.kind=1) (ck (Av (PS.at_ y2.2.1+1))<|
 (Cn.k ([40]:List UInt8) ((PS.S5 y2.2.1 (PS.at_ y2.2.1+1)))).bind fun y6=>
 ci y6.1.1 ((Dn.kr rK y6.2.1).bind fun y8=>
 (Co.k (Dop.Aa.mk 9 y8.1.1 y3.1.1.b y3.1.1.c y3.1.1.d y2.1.1.text y3.1.1.n y3.1.1.AW y3.1.1.at_) y8.2.1).bind Ga)<|
 (Co.k (Dop.Aa.mk 2 y3.1.1.a y3.1.1.b y3.1.1.c y3.1.1.d y2.1.1.text y3.1.1.n y3.1.1.AW y3.1.1.at_) y6.2.1).bind Ga)<|
 (Cn.k ([40]:List UInt8) y2.2.1).bind fun y6=>
 ci y6.1.1 ((DU.kr rK y6.2.1).bind fun y8=>
 (DE.k ([41]:List UInt8) y8.2.1).bind fun y9=>
 Cs y8.1.1 y9.2.1)<|
 (Cn.k ([103,101,116,99]:List UInt8) y6.2.1).bind fun y8=>
 ci y8.1.1 ((DE.k ([40]:List UInt8) y8.2.1).bind fun y10=>
 (DE.k ([41]:List UInt8) y10.2.1).bind fun y11=>
 (Co.k (Dop.Aa.mk 14 y3.1.1.a y3.1.1.b y3.1.1.c y3.1.1.d y3.1.1.text y3.1.1.n y3.1.1.AW y3.1.1.at_) y11.2.1).bind Ga)<|
 (DE.k ([112,117,116,99]:List UInt8) y8.2.1).bind fun y10=>
 (DE.k ([40]:List UInt8) y10.2.1).bind fun y11=>
 (DU.kr rK y11.2.1).bind fun y12=>
 (DE.k ([41]:List UInt8) y12.2.1).bind fun y13=>
 (Co.k (Dop.Aa.mk 15 y12.1.1 y3.1.1.b y3.1.1.c y3.1.1.d y3.1.1.text y3.1.1.n y3.1.1.AW y3.1.1.at_) y13.2.1).bind Ga
abbrev OR.T:Type:=List Int→PS→R1 Int PS
abbrev Dn.KT:Type:=OR.T×Unit
def OR.kB (rK:An.T) (tK:Dn.KT):OR.T:=fun l k0=>
 (Cn.k ([41]:List UInt8) k0).bind fun y2=>
 ci (!y2.1.1) (ci (PS.e y2.2.1=0) (ci (0<I l.length) ((DE.k ([44]:List UInt8) y2.2.1).bind fun y6=>
 (DU.kr rK y6.2.1).bind fun y7=>
 ck (Cj none (room 8 (l.length+(y7.1.1::[]).length)))<|
 tK.1 (l++y7.1.1::[]) y7.2.1)<|
 (DU.kr rK y2.2.1).bind fun y6=>
 ck (Cj none (room 8 (l.length+(y6.1.1::[]).length)))<|
 tK.1 (l++y6.1.1::[]) y6.2.1)<|
 (Bj.k l y2.2.1).bind Ga)<|
 (Bj.k l y2.2.1).bind Ga
def Dn.kS (rK:An.T) (tK:Dn.KT):Dn.KT:=(OR.kB rK tK,())
def Dn.kL (rK:An.T) (n:Nat):Dn.KT:=Eu (Dn.kS rK) n
def Dn.k0 (rK:An.T) (tK:Dn.KT) (k0:PS):R1 Int PS:=
 tK.1 [] k0
def Dn.kf (rK:An.T) (k0:PS):R1 Int PS:=Dn.k0 rK (Dn.kL rK 1000000) k0
abbrev OQ.T:Type:=Int→PS→R1 Int PS
abbrev DW.KT:Type:=OQ.T×Unit
def OQ.kB (rK:An.T) (tK:DW.KT):OQ.T:=fun t1 k0=>
 ci (k0.e=0) ((ES.k k0).bind fun y3=>
 (FA.k 7 y3.1.1.at_).bind fun y4=>
 (Cn.k ([91]:List UInt8) y3.2.1).bind fun y5=>
 ci y5.1.1 ((DU.kr rK y5.2.1).bind fun y7=>
 (DE.k ([93]:List UInt8) y7.2.1).bind fun y8=>
 (Co.k (Dop.Aa.mk y4.1.1.kind t1 y7.1.1 y4.1.1.c y4.1.1.d y4.1.1.text y4.1.1.n y4.1.1.AW y4.1.1.at_) y8.2.1).bind fun y9=>
 tK.1 y9.1.1 y9.2.1)<|
 (Cn.k ([46]:List UInt8) y5.2.1).bind fun y7=>
 ci y7.1.1 (ci y7.1.1 (ck (Av (PS.at_ y7.2.1 -1))<|
 ck (0≤PS.at_ y7.2.1 -1∧PS.at_ y7.2.1 -1<I (PS.l y7.2.1).length)<|
 ci ((List.getD (PS.l y7.2.1) (PS.at_ y7.2.1 -1).toNat Dop.d4).text=(45:UInt8)::(62:UInt8)::[]) ((Hk.k 1 y7.2.1).bind fun y11=>
 (Co.k (Dop.Aa.mk 8 t1 y4.1.1.b y4.1.1.c y4.1.1.d y11.1.1.text 1 y4.1.1.AW y4.1.1.at_) y11.2.1).bind fun y12=>
 tK.1 y12.1.1 y12.2.1)<|
 (Hk.k 1 y7.2.1).bind fun y11=>
 (Co.k (Dop.Aa.mk 8 t1 y4.1.1.b y4.1.1.c y4.1.1.d y11.1.1.text y4.1.1.n y4.1.1.AW y4.1.1.at_) y11.2.1).bind fun y12=>
 tK.1 y12.1.1 y12.2.1)<|
 (Cn.k ([43,43]:List UInt8) y7.2.1).bind fun y10=>
 ci y10.1.1 (ci y10.1.1 (ck (Av (PS.at_ y10.2.1 -1))<|
 ck (0≤PS.at_ y10.2.1 -1∧PS.at_ y10.2.1 -1<I (PS.l y10.2.1).length)<|
 (Co.k (Dop.Aa.mk 13 t1 y4.1.1.b y4.1.1.c y4.1.1.d (List.getD (PS.l y10.2.1) (PS.at_ y10.2.1 -1).toNat Dop.d4).text y4.1.1.n y4.1.1.AW y4.1.1.at_) y10.2.1).bind fun y13=>
 tK.1 y13.1.1 y13.2.1)<|
 Cs t1 y10.2.1)<|
 (Cn.k ([45,45]:List UInt8) y10.2.1).bind fun y12=>
 ci y12.1.1 (ck (Av (PS.at_ y12.2.1 -1))<|
 ck (0≤PS.at_ y12.2.1 -1∧PS.at_ y12.2.1 -1<I (PS.l y12.2.1).length)<|
 (Co.k (Dop.Aa.mk 13 t1 y4.1.1.b y4.1.1.c y4.1.1.d (List.getD (PS.l y12.2.1) (PS.at_ y12.2.1 -1).toNat Dop.d4).text y4.1.1.n y4.1.1.AW y4.1.1.at_) y12.2.1).bind fun y14=>
 tK.1 y14.1.1 y14.2.1)<|
 Cs t1 y12.2.1)<|
 (Cn.k ([45,62]:List UInt8) y7.2.1).bind fun y9=>
 ci y9.1.1 (ck (Av (PS.at_ y9.2.1 -1))<|
 ck (0≤PS.at_ y9.2.1 -1∧PS.at_ y9.2.1 -1<I (PS.l y9.2.1).length)<|
 ci ((List.getD (PS.l y9.2.1) (PS.at_ y9.2.1 -1).toNat Dop.d4).text=(45:UInt8)::(62:UInt8)::[]) ((Hk.k 1 y9.2.1).bind fun y12=>
 (Co.k (Dop.Aa.mk 8 t1 y4.1.1.b y4.1.1.c y4.1.1.d y12.1.1.text 1 y4.1.1.AW y4.1.1.at_) y12.2.1).bind fun y13=>
 tK.1 y13.1.1 y13.2.1)<|
 (Hk.k 1 y9.2.1).bind fun y12=>
 (Co.k (Dop.Aa.mk 8 t1 y4.1.1.b y4.1.1.c y4.1.1.d y12.1.1.text y4.1.1.n y4.1.1.AW y4.1.1.at_) y12.2.1).bind fun y13=>
 tK.1 y13.1.1 y13.2.1)<|
 (Cn.k ([43,43]:List UInt8) y9.2.1).bind fun y11=>
 ci y11.1.1 (ci y11.1.1 (ck (Av (PS.at_ y11.2.1 -1))<|
 ck (0≤PS.at_ y11.2.1 -1∧PS.at_ y11.2.1 -1<I (PS.l y11.2.1).length)<|
 (Co.k (Dop.Aa.mk 13 t1 y4.1.1.b y4.1.1.c y4.1.1.d (List.getD (PS.l y11.2.1) (PS.at_ y11.2.1 -1).toNat Dop.d4).text y4.1.1.n y4.1.1.AW y4.1.1.at_) y11.2.1).bind fun y14=>
 tK.1 y14.1.1 y14.2.1)<|
 Cs t1 y11.2.1)<|
 (Cn.k ([45,45]:List UInt8) y11.2.1).bind fun y13=>
 ci y13.1.1 (ck (Av (PS.at_ y13.2.1 -1))<|
 ck (0≤PS.at_ y13.2.1 -1∧PS.at_ y13.2.1 -1<I (PS.l y13.2.1).length)<|
 (Co.k (Dop.Aa.mk 13 t1 y4.1.1.b y4.1.1.c y4.1.1.d (List.getD (PS.l y13.2.1) (PS.at_ y13.2.1 -1).toNat Dop.d4).text y4.1.1.n y4.1.1.AW y4.1.1.at_) y13.2.1).bind fun y15=>
 tK.1 y15.1.1 y15.2.1)<|
 Cs t1 y13.2.1)<|
 Cs (-1) k0
def DW.kS (rK:An.T) (tK:DW.KT):DW.KT:=(OQ.kB rK tK,())
def DW.kL (rK:An.T) (n:Nat):DW.KT:=Eu (DW.kS rK) n
def DW.k0 (rK:An.T) (tK:DW.KT) (t1:Int) (k0:PS):R1 Int PS:=
 tK.1 t1 k0
def DW.kf (rK:An.T) (t1:Int) (k0:PS):R1 Int PS:=DW.k0 rK (DW.kL rK 1000000) t1 k0
def An.kS (r:An.T):An.T:=(fun x=>DU.kf r x.2.1,fun x=>within r.2.2.1 x.2.1,fun x=>Dl.kf r x.2.1,fun x=>I4.kf r x.2.1,fun x=>Cv.kf r x.1.2.1 x.2.1,fun x=>DV.kf r x.2.1,fun x=>within r.2.2.2.2.2.1 x.2.1,fun x=>I5.kf r x.2.1,fun x=>Dn.kf r x.2.1,fun x=>DW.kf r x.1.2.1 x.2.1,fun x=>within r.2.2.2.1 x.2.1,())
def An.kR (n:Nat):An.T:=Eu An.kS n
def DU.Kc (n:Nat):=kd 205 DU.p (An.kR n).1
def DU.QZ:=DU.Kc FU
def DU.k:=DU.kr (An.kR FU)
def C2.Kc (n:Nat):=kd 180 C2.p (An.kR n).2.1
abbrev Dl.kq (n:Nat):((Unit×Unit)×(PS×Unit))→Option ((Int×Unit)×(PS×Unit)):=(An.kR n).2.2.1
def Dl.Kc (n:Nat):=kd 234 Dl.p (An.kR n).2.2.1
abbrev I4.kq (n:Nat):((Unit×Unit)×(PS×Unit))→Option ((Int×Unit)×(PS×Unit)):=(An.kR n).2.2.2.1
def I4.Kc (n:Nat):=kd 254 I4.p (An.kR n).2.2.2.1
def Cv.Kc (n:Nat):=kd 261 Cv.p (An.kR n).2.2.2.2.1
abbrev DV.kq (n:Nat):((Unit×Unit)×(PS×Unit))→Option ((Int×Unit)×(PS×Unit)):=(An.kR n).2.2.2.2.2.1
def DV.Kc (n:Nat):=kd 263 DV.p (An.kR n).2.2.2.2.2.1
def CF.Kc (n:Nat):=kd 180 CF.p (An.kR n).2.2.2.2.2.2.1
def I5.Kc (n:Nat):=kd 265 I5.p (An.kR n).2.2.2.2.2.2.2.1
def Dn.Kc (n:Nat):=kd 266 Dn.p (An.kR n).2.2.2.2.2.2.2.2.1
def DW.Kc (n:Nat):=kd 264 DW.p (An.kR n).2.2.2.2.2.2.2.2.2.1
def C3.Kc (n:Nat):=kd 180 C3.p (An.kR n).2.2.2.2.2.2.2.2.2.2.1
def An.UJ (n:Nat):List (Bw Dop.D4):=[DU.Kc n,C2.Kc n,Dl.Kc n,I4.Kc n,Cv.Kc n,DV.Kc n,CF.Kc n,I5.Kc n,Dn.Kc n,DW.Kc n,C3.Kc n]
theorem An.Gg: ∀ n,(DU.Kc n).Holds prog∧(C2.Kc n).Holds prog∧(Dl.Kc n).Holds prog∧(I4.Kc n).Holds prog∧(Cv.Kc n).Holds prog∧(DV.Kc n).Holds prog∧(CF.Kc n).Holds prog∧(I5.Kc n).Holds prog∧(Dn.Kc n).Holds prog∧(DW.Kc n).Holds prog∧(C3.Kc n).Holds prog∧True
 | 0=>⟨Ae AJ DU.ok,Ae AJ (by kernel_rfl),Ae AJ Dl.ok,Ae AJ I4.ok,Ae AJ Cv.ok,Ae AJ DV.ok,Ae AJ (by kernel_rfl),Ae AJ I5.ok,Ae AJ Dn.ok,Ae AJ DW.ok,Ae AJ (by kernel_rfl),trivial⟩
 | n+1=>by
  obtain ⟨h0,h1,h2,h3,h4,h5,h6,h7,h8,h9,h10,_⟩:=An.Gg n
  have hh: ∀ c∈An.UJ n,c.Holds prog:=(hc h0 (hc h1 (hc h2 (hc h3 (hc h4 (hc h5 (hc h6 (hc h7 (hc h8 (hc h9 (hc h10 hn)))))))))))
  exact ⟨kh AJ (BA hh hn) DU.ok (by kernel_rfl),
   (Bm.holds (m:=Dl.kq n) h2),
   GG AJ (BA hh (hc fields.holds (hc ES.Kh (hc Cn.Kh (hc FA.Kh (hc Co.Kh hn)))))) Dl.ok (fun t x=>Dl.k0 (An.kR n) t x.2.1) (fun c=>(fun a t10 t11 t12 k0=>c 3 Dl.q3 rfl (((),a,t10,t11,t12,()),(k0,())),())) (Dl.kS (An.kR n)) (by kernel_rfl),
   kh AJ (BA hh (hc ES.Kh (hc Cn.Kh (hc FA.Kh (hc DE.Kh (hc Co.Kh hn)))))) I4.ok (by kernel_rfl),
   GG AJ (BA hh (hc KS.Kh (hc fields.holds (hc ES.Kh (hc Cn.Kh (hc FA.Kh (hc Co.Kh hn))))))) Cv.ok (fun t x=>Cv.k0 (An.kR n) t x.1.2.1 x.2.1) (fun c=>(fun k a k0=>c 4 Cv.q4 rfl (((),k,a,()),(k0,())),fun k a t24 t25 t26 k0=>c 5 Cv.q5 rfl (((),k,a,t24,t25,t26,()),(k0,())),())) (Cv.kS (An.kR n)) (by kernel_rfl),
   GG AJ (BA hh (hc ES.Kh (hc fields.holds (hc Cn.Kh (hc FA.Kh (hc Co.Kh (hc DE.Kh (hc DD.Kh (hc OZ.Kh (hc Lz.Kh (hc G6.Kh hn))))))))))) DV.ok (fun t x=>DV.k0 (An.kR n) t x.2.1) (fun c=>(fun t3 t13 t14 t15 k0=>c 3 DV.q3 rfl (((),t3,t13,t14,t15,()),(k0,())),())) (DV.kS (An.kR n)) (by kernel_rfl),
   (Bo.holds (m:=DV.kq n) h5),
   kh AJ (BA hh (hc ES.Kh (hc FA.Kh (hc Cn.Kh (hc DE.Kh (hc Co.Kh hn)))))) I5.ok (by kernel_rfl),
   GG AJ (BA hh (hc Cn.Kh (hc DE.Kh (hc Bj.Kh hn)))) Dn.ok (fun t x=>Dn.k0 (An.kR n) t x.2.1) (fun c=>(fun l k0=>c 2 Dn.q2 rfl (((),l,()),(k0,())),())) (Dn.kS (An.kR n)) (by kernel_rfl),
   GG AJ (BA hh (hc ES.Kh (hc FA.Kh (hc Cn.Kh (hc DE.Kh (hc Hk.Kh (hc Co.Kh hn))))))) DW.ok (fun t x=>DW.k0 (An.kR n) t x.1.2.1 x.2.1) (fun c=>(fun t1 k0=>c 1 DW.q1 rfl (((),t1,()),(k0,())),())) (DW.kS (An.kR n)) (by kernel_rfl),
   (Bn.holds (m:=I4.kq n) h3),
   trivial⟩
theorem DU.J1:DU.QZ.Holds prog:=(An.Gg FU).1
end
end Go.Proofs.Tryz
