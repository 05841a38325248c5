/-
 Functions in plain words (what their equations say), and their contracts. Written by a program.
-/
import Derived.Test.YtmgkedikciddlaaGreatDoorTwQ
import Derived.Test.YtmgkedikciddlaaGreatDoorMo
set_option linter.all false
set_option maxRecDepth 100000
set_option maxHeartbeats 4000000
namespace Go.Proofs.Tryz
open Go Go.En
noncomputable section
def C4.k (n:Int) (b0_0:Dop.FM) (b0_2:List Int) (b0_3:List Dop.DE) (b0_4:List Dop.MW) (b0_5:Int) (b0_6:List Dop.Ab) (b0_7:List (List (List UInt8×Dop.CI))) (b0_8:List (List UInt8×Dop.OF)) (b0_10:Dop.DE) (b0_11 b0_14:Int) (b0_15:List (List (Int×Int))) (b0_16 b0_17 b0_18:Int) (k1:CT):R2 Dop.Ab (List Dop.Ab×List Dop.HM×Int×Unit×List Int×List Dop.DE×List Dop.MW×Int×List Dop.Ab×List (List (List UInt8×Dop.CI))×List (List UInt8×Dop.OF)×Unit×List UInt8×Int×Int×Int×Int×Int×Unit×Unit×Int×List (List (Int×Int))×Int×Int×Int×Unit) CT:=
 let A1:=Dop.Ab.mk 0 (-1) (-1) (-1) (-1) [] 0 0 0
 ci (n<0) (Aa A1 (b0_0.nodes,(b0_0.types,(b0_0.top,((),(b0_2,(b0_3,(b0_4,(b0_5,(b0_6,(b0_7,(b0_8,((),(b0_10.name,(b0_10.params,(b0_10.Ai,(b0_10.frame,(b0_10.body,(b0_11,((),((),(b0_14,(b0_15,(b0_16,(b0_17,(b0_18,()))))))))))))))))))))))))) k1)<|
 ci (I b0_0.nodes.length<=n) (Aa A1 (b0_0.nodes,(b0_0.types,(b0_0.top,((),(b0_2,(b0_3,(b0_4,(b0_5,(b0_6,(b0_7,(b0_8,((),(b0_10.name,(b0_10.params,(b0_10.Ai,(b0_10.frame,(b0_10.body,(b0_11,((),((),(b0_14,(b0_15,(b0_16,(b0_17,(b0_18,()))))))))))))))))))))))))) k1)<|
 ck (0<=n/\n<I b0_0.nodes.length)<|
 Aa (List.getD b0_0.nodes n.toNat Dop.d5) (b0_0.nodes,(b0_0.types,(b0_0.top,((),(b0_2,(b0_3,(b0_4,(b0_5,(b0_6,(b0_7,(b0_8,((),(b0_10.name,(b0_10.params,(b0_10.Ai,(b0_10.frame,(b0_10.body,(b0_11,((),((),(b0_14,(b0_15,(b0_16,(b0_17,(b0_18,()))))))))))))))))))))))))) k1
def C4.Kc:=kd 26 C4.p fun x=>C4.k x.1.2.1 x.2.1.1 x.2.1.2.2.1 x.2.1.2.2.2.1 x.2.1.2.2.2.2.1 x.2.1.2.2.2.2.2.1 x.2.1.2.2.2.2.2.2.1 x.2.1.2.2.2.2.2.2.2.1 x.2.1.2.2.2.2.2.2.2.2.1 x.2.1.2.2.2.2.2.2.2.2.2.2.1 x.2.1.2.2.2.2.2.2.2.2.2.2.2.1 x.2.1.2.2.2.2.2.2.2.2.2.2.2.2.2.2.1 x.2.1.2.2.2.2.2.2.2.2.2.2.2.2.2.2.2.1 x.2.1.2.2.2.2.2.2.2.2.2.2.2.2.2.2.2.2.1 x.2.1.2.2.2.2.2.2.2.2.2.2.2.2.2.2.2.2.2.1 x.2.1.2.2.2.2.2.2.2.2.2.2.2.2.2.2.2.2.2.2.1 x.2.2.1
theorem C4.Kh:C4.Kc.Holds prog:=kh AI hn C4.ok (by kernel_rfl)
def H0.k (n:Int) (b0_0:Dop.FM) (b0_2:List Int) (b0_3:List Dop.DE) (b0_4:List Dop.MW) (b0_5:Int) (b0_6:List Dop.Ab) (b0_8:List (List UInt8×Dop.OF)) (b0_9:List (List UInt8×Int)) (b0_10:Dop.DE) (b0_11:Int) (b0_12 b0_13:List (List UInt8×Int)) (b0_14:Int) (b0_15:List (List (Int×Int))) (b0_16 b0_17 b0_18:Int) (k1:CT) (b2:List (List (List UInt8×Dop.CI))):iD Dop.Ab (List Dop.Ab×List Dop.HM×Int×Unit×List Int×List Dop.DE×List Dop.MW×Int×List Dop.Ab×Unit×List (List UInt8×Dop.OF)×List (List UInt8×Int)×List UInt8×Int×Int×Int×Int×Int×List (List UInt8×Int)×List (List UInt8×Int)×Int×List (List (Int×Int))×Int×Int×Int×Unit) CT (List (List (List UInt8×Dop.CI))×Unit):=
 let A1:=Dop.Ab.mk 0 (-1) (-1) (-1) (-1) [] 0 0 0
 ci (n<0) (ZE A1 (b0_0.nodes,(b0_0.types,(b0_0.top,((),(b0_2,(b0_3,(b0_4,(b0_5,(b0_6,((),(b0_8,(b0_9,(b0_10.name,(b0_10.params,(b0_10.Ai,(b0_10.frame,(b0_10.body,(b0_11,(b0_12,(b0_13,(b0_14,(b0_15,(b0_16,(b0_17,(b0_18,()))))))))))))))))))))))))) k1 (b2,()))<|
 ci (I b0_0.nodes.length<=n) (ZE A1 (b0_0.nodes,(b0_0.types,(b0_0.top,((),(b0_2,(b0_3,(b0_4,(b0_5,(b0_6,((),(b0_8,(b0_9,(b0_10.name,(b0_10.params,(b0_10.Ai,(b0_10.frame,(b0_10.body,(b0_11,(b0_12,(b0_13,(b0_14,(b0_15,(b0_16,(b0_17,(b0_18,()))))))))))))))))))))))))) k1 (b2,()))<|
 ck (0<=n/\n<I b0_0.nodes.length)<|
 ZE (List.getD b0_0.nodes n.toNat Dop.d5) (b0_0.nodes,(b0_0.types,(b0_0.top,((),(b0_2,(b0_3,(b0_4,(b0_5,(b0_6,((),(b0_8,(b0_9,(b0_10.name,(b0_10.params,(b0_10.Ai,(b0_10.frame,(b0_10.body,(b0_11,(b0_12,(b0_13,(b0_14,(b0_15,(b0_16,(b0_17,(b0_18,()))))))))))))))))))))))))) k1 (b2,())
def H0.Kc:=kd 26 H0.p fun x=>H0.k x.1.2.1 x.2.1.1 x.2.1.2.2.1 x.2.1.2.2.2.1 x.2.1.2.2.2.2.1 x.2.1.2.2.2.2.2.1 x.2.1.2.2.2.2.2.2.1 x.2.1.2.2.2.2.2.2.2.2.1 x.2.1.2.2.2.2.2.2.2.2.2.1 x.2.1.2.2.2.2.2.2.2.2.2.2.1 x.2.1.2.2.2.2.2.2.2.2.2.2.2.1 x.2.1.2.2.2.2.2.2.2.2.2.2.2.2.1 x.2.1.2.2.2.2.2.2.2.2.2.2.2.2.2.1 x.2.1.2.2.2.2.2.2.2.2.2.2.2.2.2.2.1 x.2.1.2.2.2.2.2.2.2.2.2.2.2.2.2.2.2.1 x.2.1.2.2.2.2.2.2.2.2.2.2.2.2.2.2.2.2.1 x.2.1.2.2.2.2.2.2.2.2.2.2.2.2.2.2.2.2.2.1 x.2.1.2.2.2.2.2.2.2.2.2.2.2.2.2.2.2.2.2.2.1 x.2.2.1 x.2.2.2.1.1
theorem H0.Kh:H0.Kc.Holds prog:=kh AI hn H0.ok (by kernel_rfl)
def Lg.k (k1:CK) (k2:CT):iD Dop.Ag (Unit×Unit) CK CT:=
 (E5.k 1 k1 k2).bind fun y2=>
 ZE (Dop.Ag.mk y2.1.1 1 0 0 false) ((),()) y2.2.1 y2.2.2.1
def Lg.Kc:=kd 152 Lg.p fun x=>Lg.k x.2.2.1 x.2.2.2.1
theorem Lg.Kh:Lg.Kc.Holds prog:=kh AI (hc E5.Kh hn) Lg.ok (by kernel_rfl)
abbrev HC.T:Type:=List UInt8->Int->Bool->Int->CK->CT->Dop.Ag->Dop.Ag->Dop.Ag->iD Dop.Ag CK CT (Unit×Unit)
abbrev Al.KT:Type:=HC.T×Unit
def HC.kB (tK:Al.KT):HC.T:=fun t2 t4 t5 t13 k0 k1 b3 b4 b5=>
 ci (!t5) ((Lg.k k0 k1).bind fun y3=>
 (Bo.k t2 b5 y3.1.1 t4 y3.2.2.1 y3.2.2.2.1).bind fun y4=>
 (Dx.k y4.1.1.BH y4.2.1 y4.2.2.1).bind fun y5=>
 ci y5.1.1 ((Dx.k b3.BH y5.2.1 y5.2.2.1).bind fun y7=>
 (BU.k y4.1.1 b3.BH t4 y7.1.1 y7.2.1 y7.2.2.1).bind fun y8=>
 (Dl.k b5 y8.1.1 y8.2.1 y8.2.2.1).bind fun y9=>
 (Ef.k t13 y9.1.1 y9.2.1 y9.2.2.1).bind fun y10=>
 ZE (Dop.Ag.mk y10.1.1 b3.BH 0 0 false) y10.2.1 y10.2.2.1 ((),()))<|
 (BU.k y4.1.1 b3.BH t4 false y5.2.1 y5.2.2.1).bind fun y7=>
 (Dl.k b5 y7.1.1 y7.2.1 y7.2.2.1).bind fun y8=>
 (Ef.k t13 y8.1.1 y8.2.1 y8.2.2.1).bind fun y9=>
 ZE (Dop.Ag.mk y9.1.1 b3.BH 0 0 false) y9.2.1 y9.2.2.1 ((),()))<|
 (JK.k t4 k0 k1).bind fun y3=>
 (Hx.k y3.1.1 b5.n y3.2.1 y3.2.2.1).bind fun y4=>
 (ET.k y3.1.1 y4.2.1 y4.2.2.1).bind fun y5=>
 (Lg.k y5.2.1 y5.2.2.1).bind fun y6=>
 (Bo.k t2 (Dop.Ag.mk y5.1.1 b3.BH 0 0 false) y6.1.1 t4 y6.2.2.1 y6.2.2.2.1).bind fun y7=>
 (Dx.k y7.1.1.BH y7.2.1 y7.2.2.1).bind fun y8=>
 ci y8.1.1 ((Dx.k b3.BH y8.2.1 y8.2.2.1).bind fun y10=>
 (BU.k y7.1.1 b3.BH t4 y10.1.1 y10.2.1 y10.2.2.1).bind fun y11=>
 (Dl.k b5 y11.1.1 y11.2.1 y11.2.2.1).bind fun y12=>
 (ET.k y3.1.1 y12.2.1 y12.2.2.1).bind fun y13=>
 (Ef.k y12.1.1 y13.1.1 y13.2.1 y13.2.2.1).bind fun y14=>
 (Ef.k y4.1.1 y14.1.1 y14.2.1 y14.2.2.1).bind fun y15=>
 (Ef.k t13 y15.1.1 y15.2.1 y15.2.2.1).bind fun y16=>
 ZE (Dop.Ag.mk y16.1.1 b3.BH 0 0 false) y16.2.1 y16.2.2.1 ((),()))<|
 (BU.k y7.1.1 b3.BH t4 false y8.2.1 y8.2.2.1).bind fun y10=>
 (Dl.k b5 y10.1.1 y10.2.1 y10.2.2.1).bind fun y11=>
 (ET.k y3.1.1 y11.2.1 y11.2.2.1).bind fun y12=>
 (Ef.k y11.1.1 y12.1.1 y12.2.1 y12.2.2.1).bind fun y13=>
 (Ef.k y4.1.1 y13.1.1 y13.2.1 y13.2.2.1).bind fun y14=>
 (Ef.k t13 y14.1.1 y14.2.1 y14.2.2.1).bind fun y15=>
 ZE (Dop.Ag.mk y15.1.1 b3.BH 0 0 false) y15.2.1 y15.2.2.1 ((),())
def Al.kS (tK:Al.KT):Al.KT:=(HC.kB tK,())
def Al.kL (n:Nat):Al.KT:=Bp Al.kS n
def Al.k0 (tK:Al.KT) (t1:Dop.Ag) (t2:List UInt8) (t4:Int) (t5:Bool) (k0:CK) (k1:CT):iD Dop.Ag CK CT (Unit×Unit):=
 let A1:=Dop.Ag.mk 0 0 0 0 false
 ci (!(k0.e=0)) ((Az.k 8 t4 k0 k1).bind fun y3=>
 ZE y3.1.1 y3.2.1 y3.2.2.1 ((),()))<|
 ci (t1.left=0) ((Az.k 8 t4 k0 k1).bind fun y4=>
 ZE y4.1.1 y4.2.1 y4.2.2.1 ((),()))<|
 (De.k t1.BH k1).bind fun y4=>
 ci (!y4.1.1) ((Az.k 8 t4 k0 y4.2.1).bind fun y6=>
 ZE y6.1.1 y6.2.1 y6.2.2.1 ((),()))<|
 (Kt.k t1 t4 k0 y4.2.1).bind fun y6=>
 ci (y6.1.2.1.left=1) ((ET.k y6.1.2.1.at_ y6.2.1 y6.2.2.1).bind fun y8=>
 tK.1 t2 t4 t5 y6.1.1 y8.2.1 y8.2.2.1 t1 A1 (Dop.Ag.mk y8.1.1 y6.1.2.1.BH y6.1.2.1.left y6.1.2.1.at_ y6.1.2.1.zero))<|
 tK.1 t2 t4 t5 y6.1.1 y6.2.1 y6.2.2.1 t1 A1 y6.1.2.1
def Al.k (t1:Dop.Ag) (t2:List UInt8) (t4:Int) (t5:Bool) (k0:CK) (k1:CT):iD Dop.Ag CK CT (Unit×Unit):=Al.k0 (Al.kL 1000000) t1 t2 t4 t5 k0 k1
def Al.Kc:=kd 149 Al.p fun x=>Al.k x.1.2.1 x.1.2.2.1 x.1.2.2.2.2.1 x.1.2.2.2.2.2.1 x.2.1 x.2.2.1
theorem Al.Kh:Al.Kc.Holds prog:=Fx AI (hc De.Kh (hc Az.Kh (hc Kt.Kh (hc ET.Kh (hc Lg.Kh (hc Bo.Kh (hc Dx.Kh (hc BU.Kh (hc Dl.Kh (hc Ef.Kh (hc JK.Kh (hc Hx.Kh hn)))))))))))) Al.ok (fun t x=>Al.k0 t x.1.2.1 x.1.2.2.1 x.1.2.2.2.2.1 x.1.2.2.2.2.2.1 x.2.1 x.2.2.1) (fun c=>(fun t2 t4 t5 t13 k0 k1 b3 b4 b5=>c 6 Al.q6 rfl (((),t2,(),t4,t5,(),(),t13,(),()),(k0,k1,((),()),(b3,()),(b4,()),(b5,()),())),())) Al.kS (by kernel_rfl)
abbrev BZ.kr (r:BS.T) (t1:Int) (k0:CK) (k1:CT):R2 Dop.Ag CK CT:=r.1 (((),t1,()),(k0,k1,()))
abbrev Im.kr (r:BS.T) (t1:Dop.Ab) (t2:Int) (k0:CK) (k1:CT):R2 Dop.Ag CK CT:=r.2.1 (((),t1,t2,()),(k0,k1,()))
abbrev CM.kr (r:BS.T) (n:Int) (k0:CK) (k1:CT):R2 Dop.Ag CK CT:=r.2.2.1 (((),n,()),(k0,k1,()))
abbrev AX.kr (r:BS.T) (t1:Dop.Ag) (t2:List UInt8) (t4:Int) (t5:Bool) (k0:CK) (k1:CT) (b3:Dop.Ab):Option ((Dop.Ag×Unit)×(CK×CT×(Unit×Unit)×(Dop.Ab×Unit)×Unit)):=r.2.2.2.1 (((),t1,t2,(),t4,t5,()),(k0,k1,((),()),(b3,()),()))
abbrev Hv.kr (r:BS.T) (k1:CK) (k2:CT) (b3:Dop.Ab):Option ((Dop.Ag×Unit)×((Unit×Unit)×CK×CT×(Dop.Ab×Unit)×Unit)):=r.2.2.2.2.1 (((),(),()),(((),()),k1,k2,(b3,()),()))
abbrev HY.kr (r:BS.T) (t1:Dop.Ab) (t2:Int) (k0:CK) (k1:CT):R2 Dop.Ag CK CT:=r.2.2.2.2.2.1 (((),t1,t2,()),(k0,k1,()))
abbrev DY.kr (r:BS.T) (t1:Dop.Ab) (t2:Int) (k0:CK) (k1:CT):R2 Dop.Ag CK CT:=r.2.2.2.2.2.2.1 (((),t1,t2,()),(k0,k1,()))
abbrev QJ.T:Type:=Int->CK->CT->Dop.Ag->Dop.Ab->R2 Dop.Ag CK CT
abbrev L4.T:Type:=Int->CK->CT->Dop.Ag->Dop.Ab->R2 Dop.Ag CK CT
abbrev L5.T:Type:=Int->CK->CT->Dop.Ag->Dop.Ab->R2 Dop.Ag CK CT
abbrev L6.T:Type:=Int->Int->CK->CT->Dop.Ag->Dop.Ab->R2 Dop.Ag CK CT
abbrev BZ.KT:Type:=QJ.T×L4.T×L5.T×L6.T×Unit
def QJ.kB (rK:BS.T) (tK:BZ.KT):QJ.T:=fun t6 k0 k1 b3 b4=>
 (E5.k b4.n k0 k1).bind fun y2=>
 Aa (Dop.Ag.mk y2.1.1 t6 0 0 (decide (b4.n=0))) y2.2.1 y2.2.2.1
def L4.kB (rK:BS.T) (tK:BZ.KT):L4.T:=fun t9 k0 k1 b3 b4=>
 (CM.kr rK b4.a k0 k1).bind fun y2=>
 (CM.kr rK b4.b y2.2.1 y2.2.2.1).bind fun y3=>
 (Bd.k t9 y2.1.1.n y3.1.1.n ((-1)) 0 [] y3.2.1 y3.2.2.1).bind fun y4=>
 Aa (Dop.Ag.mk y4.1.1 1 0 0 false) y4.2.1 y4.2.2.1
def L5.kB (rK:BS.T) (tK:BZ.KT):L5.T:=fun t1 k0 k1 b3 b4=>
 (BZ.kr rK b4.a k0 k1).bind fun y2=>
 ck ((0:Int)<=0/\(0:Int)<=1/\1<=I b4.text.length)<|
 (Al.k y2.1.1 (List.drop (Int.toNat 0) (List.take (Int.toNat 1) b4.text)) t1 (decide (b4.kind=13)) y2.2.1 y2.2.2.1).bind BQ
def L6.kB (rK:BS.T) (tK:BZ.KT):L6.T:=fun t1 t36 k0 k1 b3 b4=>
 let A2:=DH.k b4.CG t1 k0 k1
 let A1:=CM.kr rK b4.a k0 k1
 ci (t36=6) (A1.bind fun y3=>
 (CM.kr rK b4.b y3.2.1 y3.2.2.1).bind fun y4=>
 (CM.kr rK b4.c y4.2.1 y4.2.2.1).bind fun y5=>
 (EU.k y3.1.1 y4.1.1 y5.1.1 t1 y5.2.1 y5.2.2.1).bind BQ)<|
 ci (t36=7) (A1.bind fun y4=>
 (CM.kr rK b4.b y4.2.1 y4.2.2.1).bind fun y5=>
 ci (!(CK.e y5.2.1=0)) ((Az.k 8 t1 y5.2.1 y5.2.2.1).bind BQ)<|
 (Cz.k y4.1.1.BH y5.2.1 y5.2.2.1).bind fun y7=>
 ci (!(y7.1.1=4)) ((Az.k 8 t1 y7.2.1 y7.2.2.1).bind BQ)<|
 (Dx.k y5.1.1.BH y7.2.1 y7.2.2.1).bind fun y9=>
 ci (!y9.1.1) ((Az.k 8 t1 y9.2.1 y9.2.2.1).bind BQ)<|
 (Bo.k ([43]:List UInt8) y4.1.1 y5.1.1 t1 y9.2.1 y9.2.2.1).bind fun y11=>
 (JN.k y11.1.1 t1 y11.2.1 y11.2.2.1).bind BQ)<|
 ci (t36=8) ((HY.kr rK b4 t1 k0 k1).bind BQ)<|
 ci (t36=9) ((DY.kr rK b4 t1 k0 k1).bind BQ)<|
 ci (t36=10) (A2.bind fun y7=>
 (CM.kr rK b4.a y7.2.1 y7.2.2.1).bind fun y8=>
 (BU.k y8.1.1 y7.1.1 t1 true y8.2.1 y8.2.2.1).bind fun y9=>
 Aa (Dop.Ag.mk y9.1.1 y7.1.1 0 0 false) y9.2.1 y9.2.2.1)<|
 ci (t36=11) (A2.bind fun y8=>
 (Bh.k y8.1.1 y8.2.2.1).bind fun y9=>
 ci (!y9.1.2.1) ((Az.k 8 t1 y8.2.1 y9.2.1).bind BQ)<|
 (E5.k y9.1.1 y8.2.1 y9.2.1).bind fun y11=>
 Aa (Dop.Ag.mk y11.1.1 2 0 0 false) y11.2.1 y11.2.2.1)<|
 ci (t36=14) ((Bd.k 13 ((-1)) ((-1)) ((-1)) 0 [] k0 k1).bind fun y9=>
 Aa (Dop.Ag.mk y9.1.1 1 0 0 false) y9.2.1 y9.2.2.1)<|
 A1.bind fun y9=>
 (Bd.k 14 y9.1.1.n ((-1)) ((-1)) 0 [] y9.2.1 y9.2.2.1).bind fun y10=>
 Aa (Dop.Ag.mk y10.1.1 1 0 0 false) y10.2.1 y10.2.2.1
def BZ.kS (rK:BS.T) (tK:BZ.KT):BZ.KT:=(QJ.kB rK tK,L4.kB rK tK,L5.kB rK tK,L6.kB rK tK,())
def BZ.kL (rK:BS.T) (n:Nat):BZ.KT:=Bp (BZ.kS rK) n
def BZ.k0 (rK:BS.T) (tK:BZ.KT) (t1:Int) (k0:CK) (k1:CT):R2 Dop.Ag CK CT:=
 let A1:=Dop.Ag.mk 0 0 0 0 false
 ci (!(k0.e=0)) (Aa (Dop.Ag.mk (-1) 1 0 0 false) k0 k1)<|
 (OJ.k t1 k0 k1).bind fun y3=>
 let z1:R2 Dop.Ag CK CT:=
 ci (y3.1.1.text=(124:UInt8)::(124:UInt8)::[]) (tK.2.1 11 y3.2.1 y3.2.2.1 A1 y3.1.1)<|
 tK.2.1 10 y3.2.1 y3.2.2.1 A1 y3.1.1
 ci (y3.1.1.kind=1) (ci (2147483648<=y3.1.1.n) (tK.1 2 y3.2.1 y3.2.2.1 A1 y3.1.1)<|
 tK.1 1 y3.2.1 y3.2.2.1 A1 y3.1.1)<|
 ci (y3.1.1.kind=2) (ck ((CK.names y3.2.1).length<9223372036854775807)<|
 ci (!(Cf y3.1.1.text (CK.names y3.2.1)).isSome) ((Az.k 7 t1 y3.2.1 y3.2.2.1).bind BQ)<|
 ci (((Cf y3.1.1.text (CK.names y3.2.1)).getD Dop.d9).kind=2) ((ET.k (((Cf y3.1.1.text (CK.names y3.2.1)).getD Dop.d9).n) y3.2.1 y3.2.2.1).bind fun y8=>
 Aa (Dop.Ag.mk y8.1.1 ((Cf y3.1.1.text (CK.names y3.2.1)).getD Dop.d9).BH 1 ((Cf y3.1.1.text (CK.names y3.2.1)).getD Dop.d9).n false) y8.2.1 y8.2.2.1)<|
 (Fp.k ((Cf y3.1.1.text (CK.names y3.2.1)).getD Dop.d9) y3.2.1 y3.2.2.1).bind fun y8=>
 (JM.k y8.1.1 (((Cf y3.1.1.text (CK.names y3.2.1)).getD Dop.d9).BH) y8.2.1 y8.2.2.1).bind BQ)<|
 ci (y3.1.1.kind=3) ((Im.kr rK y3.1.1 t1 y3.2.1 y3.2.2.1).bind BQ)<|
 ci (y3.1.1.kind=4) (ci (y3.1.1.text=(38:UInt8)::(38:UInt8)::[]) (z1)<|
 ci (y3.1.1.text=(124:UInt8)::(124:UInt8)::[]) (z1)<|
 (CM.kr rK y3.1.1.a y3.2.1 y3.2.2.1).bind fun y10=>
 (CM.kr rK y3.1.1.b y10.2.1 y10.2.2.1).bind fun y11=>
 (Bo.k y3.1.1.text y10.1.1 y11.1.1 t1 y11.2.1 y11.2.2.1).bind BQ)<|
 ci (y3.1.1.kind=5) ((BZ.kr rK y3.1.1.a y3.2.1 y3.2.2.1).bind fun y9=>
 ci (CK.e y9.2.1=0) (ci (y9.1.1.left=0) ((Az.k 8 t1 y9.2.1 y9.2.2.1).bind BQ)<|
 (De.k y9.1.1.BH y9.2.2.1).bind fun y12=>
 ci (!y12.1.1) ((Az.k 8 t1 y9.2.1 y12.2.1).bind BQ)<|
 ci (y3.1.1.text=(61:UInt8)::[]) ((CM.kr rK y3.1.1.b y9.2.1 y12.2.1).bind fun y15=>
 (BU.k y15.1.1 y9.1.1.BH t1 false y15.2.1 y15.2.2.1).bind fun y16=>
 (Dl.k y9.1.1 y16.1.1 y16.2.1 y16.2.2.1).bind fun y17=>
 Aa (Dop.Ag.mk y17.1.1 y9.1.1.BH 0 0 false) y17.2.1 y17.2.2.1)<|
 ck (V4 y3.1.1.text)<|
 (AX.kr rK y9.1.1 (Lib.trimSuffix y3.1.1.text ([61]:List UInt8)) t1 false y9.2.1 y12.2.1 y3.1.1).bind BQ)<|
 ci (y3.1.1.text=(61:UInt8)::[]) ((CM.kr rK y3.1.1.b y9.2.1 y9.2.2.1).bind fun y12=>
 (BU.k y12.1.1 y9.1.1.BH t1 false y12.2.1 y12.2.2.1).bind fun y13=>
 (Dl.k y9.1.1 y13.1.1 y13.2.1 y13.2.2.1).bind fun y14=>
 Aa (Dop.Ag.mk y14.1.1 y9.1.1.BH 0 0 false) y14.2.1 y14.2.2.1)<|
 ck (V4 y3.1.1.text)<|
 (AX.kr rK y9.1.1 (Lib.trimSuffix y3.1.1.text ([61]:List UInt8)) t1 false y9.2.1 y9.2.2.1 y3.1.1).bind BQ)<|
 ci (y3.1.1.kind=12) (ci (y3.1.1.kind=12) (tK.2.2.1 t1 y3.2.1 y3.2.2.1 A1 y3.1.1)<|
 tK.2.2.2.1 t1 y3.1.1.kind y3.2.1 y3.2.2.1 A1 y3.1.1)<|
 ci (y3.1.1.kind=13) (tK.2.2.1 t1 y3.2.1 y3.2.2.1 A1 y3.1.1)<|
 tK.2.2.2.1 t1 y3.1.1.kind y3.2.1 y3.2.2.1 A1 y3.1.1
def BZ.kf (rK:BS.T) (t1:Int) (k0:CK) (k1:CT):R2 Dop.Ag CK CT:=BZ.k0 rK (BZ.kL rK 1000000) t1 k0 k1
def Im.kf (rK:BS.T) (t1:Dop.Ab) (t2:Int) (k0:CK) (k1:CT):R2 Dop.Ag CK CT:=
 let A1:=CM.kr rK t1.a k0 k1
 ci (t1.text=(42:UInt8)::[]) (A1.bind fun y3=>
 (JN.k y3.1.1 t2 y3.2.1 y3.2.2.1).bind BQ)<|
 ci (t1.text=(38:UInt8)::[]) ((OJ.k t1.a k0 k1).bind fun y4=>
 ci (y4.1.1.kind=2) (ck ((CK.names y4.2.1).length<9223372036854775807)<|
 ci (!(Cf y4.1.1.text (CK.names y4.2.1)).isSome) ((Az.k 7 t1.a y4.2.1 y4.2.2.1).bind BQ)<|
 (Fp.k ((Cf y4.1.1.text (CK.names y4.2.1)).getD Dop.d9) y4.2.1 y4.2.2.1).bind fun y7=>
 (JO.k (((Cf y4.1.1.text (CK.names y4.2.1)).getD Dop.d9).BH) y7.2.1 y7.2.2.1).bind fun y8=>
 Aa (Dop.Ag.mk y7.1.1 y8.1.1 0 0 false) y8.2.1 y8.2.2.1)<|
 (BZ.kr rK t1.a y4.2.1 y4.2.2.1).bind fun y6=>
 ci (CK.e y6.2.1=0) (ci (!(y6.1.1.left=2)) ((Az.k 8 t2 y6.2.1 y6.2.2.1).bind BQ)<|
 (JO.k y6.1.1.BH y6.2.1 y6.2.2.1).bind fun y9=>
 Aa (Dop.Ag.mk y6.1.1.at_ y9.1.1 0 0 false) y9.2.1 y9.2.2.1)<|
 (JO.k y6.1.1.BH y6.2.1 y6.2.2.1).bind fun y8=>
 Aa (Dop.Ag.mk y6.1.1.at_ y8.1.1 0 0 false) y8.2.1 y8.2.2.1)<|
 ci (t1.text=(33:UInt8)::[]) (A1.bind fun y5=>
 (Hw.k 23 y5.1.1.n y5.2.1 y5.2.2.1).bind fun y6=>
 Aa (Dop.Ag.mk y6.1.1 1 0 0 false) y6.2.1 y6.2.2.1)<|
 A1.bind fun y5=>
 ci (CK.e y5.2.1=0) ((Dx.k y5.1.1.BH y5.2.1 y5.2.2.1).bind fun y7=>
 ci (!y7.1.1) ((Az.k 8 t2 y7.2.1 y7.2.2.1).bind BQ)<|
 ci (t1.text=(126:UInt8)::[]) ((Hw.k 21 y5.1.1.n y7.2.1 y7.2.2.1).bind fun y10=>
 (HD.k y5.1.1.BH y5.1.1.BH y10.2.1 y10.2.2.1).bind fun y11=>
 Aa (Dop.Ag.mk y10.1.1 y11.1.1 0 0 false) y11.2.1 y11.2.2.1)<|
 (Hw.k 20 y5.1.1.n y7.2.1 y7.2.2.1).bind fun y10=>
 (HD.k y5.1.1.BH y5.1.1.BH y10.2.1 y10.2.2.1).bind fun y11=>
 Aa (Dop.Ag.mk y10.1.1 y11.1.1 0 0 false) y11.2.1 y11.2.2.1)<|
 ci (t1.text=(126:UInt8)::[]) ((Hw.k 21 y5.1.1.n y5.2.1 y5.2.2.1).bind fun y8=>
 (HD.k y5.1.1.BH y5.1.1.BH y8.2.1 y8.2.2.1).bind fun y9=>
 Aa (Dop.Ag.mk y8.1.1 y9.1.1 0 0 false) y9.2.1 y9.2.2.1)<|
 (Hw.k 20 y5.1.1.n y5.2.1 y5.2.2.1).bind fun y8=>
 (HD.k y5.1.1.BH y5.1.1.BH y8.2.1 y8.2.2.1).bind fun y9=>
 Aa (Dop.Ag.mk y8.1.1 y9.1.1 0 0 false) y9.2.1 y9.2.2.1
def CM.kf (rK:BS.T) (n:Int) (k0:CK) (k1:CT):R2 Dop.Ag CK CT:=
 (BZ.kr rK n k0 k1).bind fun y2=>
 ci (CK.e y2.2.1=0) ((De.k y2.1.1.BH y2.2.2.1).bind fun y4=>
 ci (!y4.1.1) ((Az.k 8 n y2.2.1 y4.2.1).bind BQ)<|
 Aa y2.1.1 y2.2.1 y4.2.1)<|
 Aa y2.1.1 y2.2.1 y2.2.2.1
abbrev HA.T:Type:=List UInt8->Int->Bool->Int->CK->CT->Dop.Ab->Dop.Ag->Dop.Ag->Dop.Ag->Option ((Dop.Ag×Unit)×(CK×CT×(Unit×Unit)×(Dop.Ab×Unit)×Unit))
abbrev AX.KT:Type:=HA.T×Unit
def HA.kB (rK:BS.T) (tK:AX.KT):HA.T:=fun t2 t4 t5 t13 k0 k1 b3 b4 b5 b6=>
 ci (!t5) ((Hv.kr rK k0 k1 b3).bind fun y3=>
 (Bo.k t2 b6 y3.1.1 t4 y3.2.2.1 y3.2.2.2.1).bind fun y4=>
 (Dx.k y4.1.1.BH y4.2.1 y4.2.2.1).bind fun y5=>
 ci y5.1.1 ((Dx.k b4.BH y5.2.1 y5.2.2.1).bind fun y7=>
 (BU.k y4.1.1 b4.BH t4 y7.1.1 y7.2.1 y7.2.2.1).bind fun y8=>
 (Dl.k b6 y8.1.1 y8.2.1 y8.2.2.1).bind fun y9=>
 (Ef.k t13 y9.1.1 y9.2.1 y9.2.2.1).bind fun y10=>
 some ((Dop.Ag.mk y10.1.1 b4.BH 0 0 false,()),(y10.2.1,(y10.2.2.1,(((),()),((y3.2.2.2.2.1.1,()),()))))))<|
 (BU.k y4.1.1 b4.BH t4 false y5.2.1 y5.2.2.1).bind fun y7=>
 (Dl.k b6 y7.1.1 y7.2.1 y7.2.2.1).bind fun y8=>
 (Ef.k t13 y8.1.1 y8.2.1 y8.2.2.1).bind fun y9=>
 some ((Dop.Ag.mk y9.1.1 b4.BH 0 0 false,()),(y9.2.1,(y9.2.2.1,(((),()),((y3.2.2.2.2.1.1,()),()))))))<|
 (JK.k t4 k0 k1).bind fun y3=>
 (Hx.k y3.1.1 b6.n y3.2.1 y3.2.2.1).bind fun y4=>
 (ET.k y3.1.1 y4.2.1 y4.2.2.1).bind fun y5=>
 (Hv.kr rK y5.2.1 y5.2.2.1 b3).bind fun y6=>
 (Bo.k t2 (Dop.Ag.mk y5.1.1 b4.BH 0 0 false) y6.1.1 t4 y6.2.2.1 y6.2.2.2.1).bind fun y7=>
 (Dx.k y7.1.1.BH y7.2.1 y7.2.2.1).bind fun y8=>
 ci y8.1.1 ((Dx.k b4.BH y8.2.1 y8.2.2.1).bind fun y10=>
 (BU.k y7.1.1 b4.BH t4 y10.1.1 y10.2.1 y10.2.2.1).bind fun y11=>
 (Dl.k b6 y11.1.1 y11.2.1 y11.2.2.1).bind fun y12=>
 (ET.k y3.1.1 y12.2.1 y12.2.2.1).bind fun y13=>
 (Ef.k y12.1.1 y13.1.1 y13.2.1 y13.2.2.1).bind fun y14=>
 (Ef.k y4.1.1 y14.1.1 y14.2.1 y14.2.2.1).bind fun y15=>
 (Ef.k t13 y15.1.1 y15.2.1 y15.2.2.1).bind fun y16=>
 some ((Dop.Ag.mk y16.1.1 b4.BH 0 0 false,()),(y16.2.1,(y16.2.2.1,(((),()),((y6.2.2.2.2.1.1,()),()))))))<|
 (BU.k y7.1.1 b4.BH t4 false y8.2.1 y8.2.2.1).bind fun y10=>
 (Dl.k b6 y10.1.1 y10.2.1 y10.2.2.1).bind fun y11=>
 (ET.k y3.1.1 y11.2.1 y11.2.2.1).bind fun y12=>
 (Ef.k y11.1.1 y12.1.1 y12.2.1 y12.2.2.1).bind fun y13=>
 (Ef.k y4.1.1 y13.1.1 y13.2.1 y13.2.2.1).bind fun y14=>
 (Ef.k t13 y14.1.1 y14.2.1 y14.2.2.1).bind fun y15=>
 some ((Dop.Ag.mk y15.1.1 b4.BH 0 0 false,()),(y15.2.1,(y15.2.2.1,(((),()),((y6.2.2.2.2.1.1,()),())))))
def AX.kS (rK:BS.T) (tK:AX.KT):AX.KT:=(HA.kB rK tK,())
def AX.kL (rK:BS.T) (n:Nat):AX.KT:=Bp (AX.kS rK) n
def AX.k0 (rK:BS.T) (tK:AX.KT) (t1:Dop.Ag) (t2:List UInt8) (t4:Int) (t5:Bool) (k0:CK) (k1:CT) (b3:Dop.Ab):Option ((Dop.Ag×Unit)×(CK×CT×(Unit×Unit)×(Dop.Ab×Unit)×Unit)):=
 let A1:=Dop.Ag.mk 0 0 0 0 false
 ci (!(k0.e=0)) ((Az.k 8 t4 k0 k1).bind fun y3=>
 some ((y3.1.1,()),(y3.2.1,(y3.2.2.1,(((),()),((b3,()),()))))))<|
 ci (t1.left=0) ((Az.k 8 t4 k0 k1).bind fun y4=>
 some ((y4.1.1,()),(y4.2.1,(y4.2.2.1,(((),()),((b3,()),()))))))<|
 (De.k t1.BH k1).bind fun y4=>
 ci (!y4.1.1) ((Az.k 8 t4 k0 y4.2.1).bind fun y6=>
 some ((y6.1.1,()),(y6.2.1,(y6.2.2.1,(((),()),((b3,()),()))))))<|
 (Kt.k t1 t4 k0 y4.2.1).bind fun y6=>
 ci (y6.1.2.1.left=1) ((ET.k y6.1.2.1.at_ y6.2.1 y6.2.2.1).bind fun y8=>
 tK.1 t2 t4 t5 y6.1.1 y8.2.1 y8.2.2.1 b3 t1 A1 (Dop.Ag.mk y8.1.1 y6.1.2.1.BH y6.1.2.1.left y6.1.2.1.at_ y6.1.2.1.zero))<|
 tK.1 t2 t4 t5 y6.1.1 y6.2.1 y6.2.2.1 b3 t1 A1 y6.1.2.1
def AX.kf (rK:BS.T) (t1:Dop.Ag) (t2:List UInt8) (t4:Int) (t5:Bool) (k0:CK) (k1:CT) (b3:Dop.Ab):Option ((Dop.Ag×Unit)×(CK×CT×(Unit×Unit)×(Dop.Ab×Unit)×Unit)):=AX.k0 rK (AX.kL rK 1000000) t1 t2 t4 t5 k0 k1 b3
def Hv.kf (rK:BS.T) (k1:CK) (k2:CT) (b3:Dop.Ab):Option ((Dop.Ag×Unit)×((Unit×Unit)×CK×CT×(Dop.Ab×Unit)×Unit)):=
 (CM.kr rK b3.b k1 k2).bind fun y2=>
 some ((y2.1.1,()),(((),()),(y2.2.1,(y2.2.2.1,((b3,()),())))))
def HY.kf (rK:BS.T) (t1:Dop.Ab) (t2:Int) (k0:CK) (k1:CT):R2 Dop.Ag CK CT:=(Au (S:=Dop.D4) prog 155 tb (BS.ct rK++[JN.Kc,Cz.Kc,Az.Kc,Hy.Kc,E5.Kc,Cv.Kc,JM.Kc]) HY.p).KJ 3000 1000000 HY.p.sp (((),t1,t2,()),(k0,k1,()))
abbrev QM.T:Type:=List Int->List Int->Int->Int->CK->CT->Dop.Ab->Dop.Ag->Dop.OF->R2 Dop.Ag CK CT
abbrev DY.KT:Type:=QM.T×Unit
def QM.kB (rK:BS.T) (tK:DY.KT):QM.T:=fun t10 t45 t46 t47 k0 k1 b2 b3 b4=>
 let A1:=List.getD t45 t47.toNat 0
 ci (t47<t46) (ck (0<=t47/\t47<I t45.length)<|
 ck (t47.toNat<t45.length)<|
 (CM.kr rK A1 k0 k1).bind fun y3=>
 ck (0<=t47/\t47<I b4.params.length)<|
 (BU.k y3.1.1 (List.getD b4.params t47.toNat 0) A1 false y3.2.1 y3.2.2.1).bind fun y4=>
 ck (DG none (room 8 (t10.length+(y4.1.1::[]).length)))<|
 ck (BI (t47+1))<|
 tK.1 (t10++y4.1.1::[]) t45 t46 (t47+1) y4.2.1 y4.2.2.1 b2 b3 b4)<|
 (Ae.k t10 k0 k1).bind fun y3=>
 (Bd.k 12 y3.1.1 ((-1)) ((-1)) 0 b2.text y3.2.1 y3.2.2.1).bind fun y4=>
 Aa (Dop.Ag.mk y4.1.1 b4.DR 0 0 false) y4.2.1 y4.2.2.1
def DY.kS (rK:BS.T) (tK:DY.KT):DY.KT:=(QM.kB rK tK,())
def DY.kL (rK:BS.T) (n:Nat):DY.KT:=Bp (DY.kS rK) n
def DY.k0 (rK:BS.T) (tK:DY.KT) (t1:Dop.Ab) (t2:Int) (k0:CK) (k1:CT):R2 Dop.Ag CK CT:=
 let A1:=AO k0.sigs t1.text
 ci (!A1.isSome) ((Az.k 7 t2 k0 k1).bind BQ)<|
 (Gq.k k0.t t1.a).bind fun y3=>
 ci (!(I y3.1.1.length=I (A1.getD Dop.d15).params.length)) ((Az.k 8 t2 k0 k1).bind BQ)<|
 tK.1 [] y3.1.1 (I y3.1.1.length) 0 k0 k1 t1 (Dop.Ag.mk 0 0 0 0 false) (A1.getD Dop.d15)
def DY.kf (rK:BS.T) (t1:Dop.Ab) (t2:Int) (k0:CK) (k1:CT):R2 Dop.Ag CK CT:=DY.k0 rK (DY.kL rK 1000000) t1 t2 k0 k1
def BS.kS (r:BS.T):BS.T:=(fun x=>BZ.kf r x.1.2.1 x.2.1 x.2.2.1,fun x=>Im.kf r x.1.2.1 x.1.2.2.1 x.2.1 x.2.2.1,fun x=>CM.kf r x.1.2.1 x.2.1 x.2.2.1,fun x=>AX.kf r x.1.2.1 x.1.2.2.1 x.1.2.2.2.2.1 x.1.2.2.2.2.2.1 x.2.1 x.2.2.1 x.2.2.2.2.1.1,fun x=>Hv.kf r x.2.2.1 x.2.2.2.1 x.2.2.2.2.1.1,fun x=>HY.kf r x.1.2.1 x.1.2.2.1 x.2.1 x.2.2.1,fun x=>DY.kf r x.1.2.1 x.1.2.2.1 x.2.1 x.2.2.1,())
def BS.kR (n:Nat):BS.T:=Bp BS.kS n
def BZ.Kc (n:Nat):=kd 122 BZ.p (BS.kR n).1
def BZ.LZ:=BZ.Kc FU
def BZ.k:=BZ.kr (BS.kR FU)
def Im.Kc (n:Nat):=kd 147 Im.p (BS.kR n).2.1
def CM.Kc (n:Nat):=kd 97 CM.p (BS.kR n).2.2.1
def CM.LZ:=CM.Kc FU
def CM.k:=CM.kr (BS.kR FU)
def AX.Kc (n:Nat):=kd 149 AX.p (BS.kR n).2.2.2.1
def Hv.Kc (n:Nat):=kd 151 Hv.p (BS.kR n).2.2.2.2.1
def HY.Kc (n:Nat):=kd 155 HY.p (BS.kR n).2.2.2.2.2.1
def DY.Kc (n:Nat):=kd 156 DY.p (BS.kR n).2.2.2.2.2.2.1
def BS.Si (n:Nat):List (B2 Dop.D4):=[BZ.Kc n,Im.Kc n,CM.Kc n,AX.Kc n,Hv.Kc n,HY.Kc n,DY.Kc n]
theorem BS.FD: ∀ n,(BZ.Kc n).Holds prog/\(Im.Kc n).Holds prog/\(CM.Kc n).Holds prog/\(AX.Kc n).Holds prog/\(Hv.Kc n).Holds prog/\(HY.Kc n).Holds prog/\(DY.Kc n).Holds prog/\True
 | 0=>⟨AP AI BZ.ok,AP AI Im.ok,AP AI CM.ok,AP AI AX.ok,AP AI Hv.ok,AP AI HY.ok,AP AI DY.ok,trivial⟩
 | n+1=>by
  obtain ⟨h0,h1,h2,h3,h4,h5,h6,_⟩:=BS.FD n
  have hh: ∀ c∈BS.Si n,c.Holds prog:=(hc h0 (hc h1 (hc h2 (hc h3 (hc h4 (hc h5 (hc h6 hn)))))))
  exact ⟨Fx AI (Af hh (hc OJ.Kh (hc E5.Kh (hc D5.holds (hc Az.Kh (hc ET.Kh (hc Fp.Kh (hc JM.Kh (hc Bd.Kh (hc Bo.Kh (hc De.Kh (hc BU.Kh (hc Dl.Kh (hc trimSuffix.holds (hc Al.Kh (hc EU.Kh (hc Cz.Kh (hc Dx.Kh (hc JN.Kh (hc DH.Kh (hc Bh.Ip hn))))))))))))))))))))) BZ.ok (fun t x=>BZ.k0 (BS.kR n) t x.1.2.1 x.2.1 x.2.2.1) (fun c=>(fun t6 k0 k1 b3 b4=>c 9 BZ.q9 rfl (((),(),(),t6,()),(k0,k1,((),()),(b3,()),(b4,()),())),fun t9 k0 k1 b3 b4=>c 24 BZ.ZD rfl (((),(),(),t9,()),(k0,k1,((),()),(b3,()),(b4,()),())),fun t1 k0 k1 b3 b4=>c 40 BZ.oE rfl ((t1,(),(),(),()),(k0,k1,((),()),(b3,()),(b4,()),())),fun t1 t36 k0 k1 b3 b4=>c 41 BZ.oF rfl ((t1,(),(),(),t36,()),(k0,k1,((),()),(b3,()),(b4,()),())),())) (BZ.kS (BS.kR n)) (by kernel_rfl),
   kh AI (Af hh (hc JN.Kh (hc OJ.Kh (hc D5.holds (hc Az.Kh (hc Fp.Kh (hc JO.Kh (hc Hw.Kh (hc Dx.Kh (hc HD.Kh hn)))))))))) Im.ok (by kernel_rfl),
   kh AI (Af hh (hc De.Kh (hc Az.Kh hn))) CM.ok (by kernel_rfl),
   Fx AI (Af hh (hc De.Kh (hc Az.Kh (hc Kt.Kh (hc ET.Kh (hc Bo.Kh (hc Dx.Kh (hc BU.Kh (hc Dl.Kh (hc Ef.Kh (hc JK.Kh (hc Hx.Kh hn)))))))))))) AX.ok (fun t x=>AX.k0 (BS.kR n) t x.1.2.1 x.1.2.2.1 x.1.2.2.2.2.1 x.1.2.2.2.2.2.1 x.2.1 x.2.2.1 x.2.2.2.2.1.1) (fun c=>(fun t2 t4 t5 t13 k0 k1 b3 b4 b5 b6=>c 6 AX.q6 rfl (((),t2,(),t4,t5,(),(),t13,(),()),(k0,k1,((),()),(b3,()),(b4,()),(b5,()),(b6,()),())),())) (AX.kS (BS.kR n)) (by kernel_rfl),
   kh AI (Af hh hn) Hv.ok (by kernel_rfl),
   kh AI (Af hh (hc JN.Kh (hc Cz.Kh (hc Az.Kh (hc Hy.Kh (hc E5.Kh (hc Cv.Kh (hc JM.Kh hn)))))))) HY.ok (by kernel_rfl),
   Fx AI (Af hh (hc Az.Kh (hc Gq.Kh (hc BU.Kh (hc Ae.Kh (hc Bd.Kh hn)))))) DY.ok (fun t x=>DY.k0 (BS.kR n) t x.1.2.1 x.1.2.2.1 x.2.1 x.2.2.1) (fun c=>(fun t10 t45 t46 t47 k0 k1 b2 b3 b4=>c 9 DY.q9 rfl (((),(),(),(),t10,t45,t46,t47,()),(k0,k1,(b2,()),(b3,()),(b4,()),())),())) (DY.kS (BS.kR n)) (by kernel_rfl),
   trivial⟩
theorem BZ.Ip:BZ.LZ.Holds prog:=(BS.FD FU).1
theorem CM.Ip:CM.LZ.Holds prog:=(BS.FD FU).2.2.1
def NJ.k (s:List Dop.WY):Fs (List Dop.WY):=
 ck (Yo s)<|
 ck (DG none (room 24 (([]:List Dop.WY).length+s.length)))<|
 Cn ([]++s)
def NJ.Kc:=kd 92 NJ.p fun x=>NJ.k x.1.1
theorem NJ.Kh:NJ.Kc.Holds prog:=kh AI hn NJ.ok (by kernel_rfl)
def G7.KE:Env Dop.D4:=Au prog 47 tb [JJ.Kc,Bh.LZ,NJ.Kc] G7.p
def G7.k (t1:List UInt8) (t2:List Dop.WY) (k0:CT):R1 Int CT:=G7.KE.KJ 3000 1000000 G7.p.sp (((),t1,t2,()),(k0,()))
def G7.Kc:=kd 47 G7.p fun x=>G7.k x.1.2.1 x.1.2.2.1 x.2.1
theorem G7.Kh:G7.Kc.Holds prog:=kh AI (hc JJ.Kh (hc Bh.Ip (hc NJ.Kh hn))) G7.ok (by kernel_rfl)
end
end Go.Proofs.Tryz
