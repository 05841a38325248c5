/-
 Functions in plain words (what their equations say), and their contracts. Written by a program.
-/
import Derived.Test.YtikecakpcfpghaaGreatDoorTwQ
import Derived.Test.YtikecakpcfpghaaGreatDoorMo
set_option linter.all false
set_option maxRecDepth 100000
set_option maxHeartbeats 4000000
namespace Go.Proofs.Tryz
open Go Go.En
noncomputable section
def Cz.k (n:Int) (b0_0:Dop.HA) (b0_2:List Int) (b0_3:List Dop.Dc) (b0_4:List Dop.ML) (b0_5:Int) (b0_6:List Dop.AZ) (b0_7:List (List (List UInt8×Dop.CD))) (b0_8:List (List UInt8×Dop.N8)) (b0_10:Dop.Dc) (b0_11 b0_14:Int) (b0_15:List (List (Int×Int))) (b0_16 b0_17 b0_18:Int) (k1:CT):R2 Dop.AZ (List Dop.AZ×List Dop.HC×Int×Unit×List Int×List Dop.Dc×List Dop.ML×Int×List Dop.AZ×List (List (List UInt8×Dop.CD))×List (List UInt8×Dop.N8)×Unit×List UInt8×Int×Int×Int×Int×Int×Unit×Unit×Int×List (List (Int×Int))×Int×Int×Int×Unit) CT:=
 let A1:=Dop.AZ.mk 0 (-1) (-1) (-1) (-1) [] 0 0 0
 ci (n<0) (Ac A1 (b0_0.nodes,(b0_0.types,(b0_0.top,((),(b0_2,(b0_3,(b0_4,(b0_5,(b0_6,(b0_7,(b0_8,((),(b0_10.name,(b0_10.params,(b0_10.Al,(b0_10.frame,(b0_10.body,(b0_11,((),((),(b0_14,(b0_15,(b0_16,(b0_17,(b0_18,()))))))))))))))))))))))))) k1)<|
 ci (I b0_0.nodes.length<=n) (Ac A1 (b0_0.nodes,(b0_0.types,(b0_0.top,((),(b0_2,(b0_3,(b0_4,(b0_5,(b0_6,(b0_7,(b0_8,((),(b0_10.name,(b0_10.params,(b0_10.Al,(b0_10.frame,(b0_10.body,(b0_11,((),((),(b0_14,(b0_15,(b0_16,(b0_17,(b0_18,()))))))))))))))))))))))))) k1)<|
 ck (0<=n/\n<I b0_0.nodes.length)<|
 Ac (List.getD b0_0.nodes n.toNat Dop.d5) (b0_0.nodes,(b0_0.types,(b0_0.top,((),(b0_2,(b0_3,(b0_4,(b0_5,(b0_6,(b0_7,(b0_8,((),(b0_10.name,(b0_10.params,(b0_10.Al,(b0_10.frame,(b0_10.body,(b0_11,((),((),(b0_14,(b0_15,(b0_16,(b0_17,(b0_18,()))))))))))))))))))))))))) k1
def Cz.Kc:=kd 17 Cz.p fun x=>Cz.k x.1.2.1 x.2.1.1 x.2.1.2.2.1 x.2.1.2.2.2.1 x.2.1.2.2.2.2.1 x.2.1.2.2.2.2.2.1 x.2.1.2.2.2.2.2.2.1 x.2.1.2.2.2.2.2.2.2.1 x.2.1.2.2.2.2.2.2.2.2.1 x.2.1.2.2.2.2.2.2.2.2.2.2.1 x.2.1.2.2.2.2.2.2.2.2.2.2.2.1 x.2.1.2.2.2.2.2.2.2.2.2.2.2.2.2.2.1 x.2.1.2.2.2.2.2.2.2.2.2.2.2.2.2.2.2.1 x.2.1.2.2.2.2.2.2.2.2.2.2.2.2.2.2.2.2.1 x.2.1.2.2.2.2.2.2.2.2.2.2.2.2.2.2.2.2.2.1 x.2.1.2.2.2.2.2.2.2.2.2.2.2.2.2.2.2.2.2.2.1 x.2.2.1
theorem Cz.Kh:Cz.Kc.Holds prog:=kh AH hn Cz.ok (by kernel_rfl)
def Hp.k (n:Int) (b0_0:Dop.HA) (b0_2:List Int) (b0_3:List Dop.Dc) (b0_4:List Dop.ML) (b0_5:Int) (b0_6:List Dop.AZ) (b0_8:List (List UInt8×Dop.N8)) (b0_9:List (List UInt8×Int)) (b0_10:Dop.Dc) (b0_11:Int) (b0_12 b0_13:List (List UInt8×Int)) (b0_14:Int) (b0_15:List (List (Int×Int))) (b0_16 b0_17 b0_18:Int) (k1:CT) (b2:List (List (List UInt8×Dop.CD))):gv Dop.AZ (List Dop.AZ×List Dop.HC×Int×Unit×List Int×List Dop.Dc×List Dop.ML×Int×List Dop.AZ×Unit×List (List UInt8×Dop.N8)×List (List UInt8×Int)×List UInt8×Int×Int×Int×Int×Int×List (List UInt8×Int)×List (List UInt8×Int)×Int×List (List (Int×Int))×Int×Int×Int×Unit) CT (List (List (List UInt8×Dop.CD))×Unit):=
 let A1:=Dop.AZ.mk 0 (-1) (-1) (-1) (-1) [] 0 0 0
 ci (n<0) (Yr A1 (b0_0.nodes,(b0_0.types,(b0_0.top,((),(b0_2,(b0_3,(b0_4,(b0_5,(b0_6,((),(b0_8,(b0_9,(b0_10.name,(b0_10.params,(b0_10.Al,(b0_10.frame,(b0_10.body,(b0_11,(b0_12,(b0_13,(b0_14,(b0_15,(b0_16,(b0_17,(b0_18,()))))))))))))))))))))))))) k1 (b2,()))<|
 ci (I b0_0.nodes.length<=n) (Yr A1 (b0_0.nodes,(b0_0.types,(b0_0.top,((),(b0_2,(b0_3,(b0_4,(b0_5,(b0_6,((),(b0_8,(b0_9,(b0_10.name,(b0_10.params,(b0_10.Al,(b0_10.frame,(b0_10.body,(b0_11,(b0_12,(b0_13,(b0_14,(b0_15,(b0_16,(b0_17,(b0_18,()))))))))))))))))))))))))) k1 (b2,()))<|
 ck (0<=n/\n<I b0_0.nodes.length)<|
 Yr (List.getD b0_0.nodes n.toNat Dop.d5) (b0_0.nodes,(b0_0.types,(b0_0.top,((),(b0_2,(b0_3,(b0_4,(b0_5,(b0_6,((),(b0_8,(b0_9,(b0_10.name,(b0_10.params,(b0_10.Al,(b0_10.frame,(b0_10.body,(b0_11,(b0_12,(b0_13,(b0_14,(b0_15,(b0_16,(b0_17,(b0_18,()))))))))))))))))))))))))) k1 (b2,())
def Hp.Kc:=kd 17 Hp.p fun x=>Hp.k x.1.2.1 x.2.1.1 x.2.1.2.2.1 x.2.1.2.2.2.1 x.2.1.2.2.2.2.1 x.2.1.2.2.2.2.2.1 x.2.1.2.2.2.2.2.2.1 x.2.1.2.2.2.2.2.2.2.2.1 x.2.1.2.2.2.2.2.2.2.2.2.1 x.2.1.2.2.2.2.2.2.2.2.2.2.1 x.2.1.2.2.2.2.2.2.2.2.2.2.2.1 x.2.1.2.2.2.2.2.2.2.2.2.2.2.2.1 x.2.1.2.2.2.2.2.2.2.2.2.2.2.2.2.1 x.2.1.2.2.2.2.2.2.2.2.2.2.2.2.2.2.1 x.2.1.2.2.2.2.2.2.2.2.2.2.2.2.2.2.2.1 x.2.1.2.2.2.2.2.2.2.2.2.2.2.2.2.2.2.2.1 x.2.1.2.2.2.2.2.2.2.2.2.2.2.2.2.2.2.2.2.1 x.2.1.2.2.2.2.2.2.2.2.2.2.2.2.2.2.2.2.2.2.1 x.2.2.1 x.2.2.2.1.1
theorem Hp.Kh:Hp.Kc.Holds prog:=kh AH hn Hp.ok (by kernel_rfl)
def LX.k (k1:CK) (k2:CT):gv Dop.Ae (Unit×Unit) CK CT:=
 (Eu.k 1 k1 k2).bind fun y2=>
 Yr (Dop.Ae.mk y2.1.1 1 0 0 false) ((),()) y2.2.1 y2.2.2.1
def LX.Kc:=kd 136 LX.p fun x=>LX.k x.2.2.1 x.2.2.2.1
theorem LX.Kh:LX.Kc.Holds prog:=kh AH (hc Eu.Kh hn) LX.ok (by kernel_rfl)
abbrev Gz.T:Type:=List UInt8->Int->Bool->Int->CK->CT->Dop.Ae->Dop.Ae->Dop.Ae->gv Dop.Ae CK CT (Unit×Unit)
abbrev Ak.KT:Type:=Gz.T×Unit
def Gz.kB (tK:Ak.KT):Gz.T:=fun t2 t4 t5 t13 k0 k1 b3 b4 b5=>
 ci (!t5) ((LX.k k0 k1).bind fun y3=>
 (Bl.k t2 b5 y3.1.1 t4 y3.2.2.1 y3.2.2.2.1).bind fun y4=>
 (Dt.k y4.1.1.BB y4.2.1 y4.2.2.1).bind fun y5=>
 ci y5.1.1 ((Dt.k b3.BB y5.2.1 y5.2.2.1).bind fun y7=>
 (BO.k y4.1.1 b3.BB t4 y7.1.1 y7.2.1 y7.2.2.1).bind fun y8=>
 (Dh.k b5 y8.1.1 y8.2.1 y8.2.2.1).bind fun y9=>
 (EW.k t13 y9.1.1 y9.2.1 y9.2.2.1).bind fun y10=>
 Yr (Dop.Ae.mk y10.1.1 b3.BB 0 0 false) y10.2.1 y10.2.2.1 ((),()))<|
 (BO.k y4.1.1 b3.BB t4 false y5.2.1 y5.2.2.1).bind fun y7=>
 (Dh.k b5 y7.1.1 y7.2.1 y7.2.2.1).bind fun y8=>
 (EW.k t13 y8.1.1 y8.2.1 y8.2.2.1).bind fun y9=>
 Yr (Dop.Ae.mk y9.1.1 b3.BB 0 0 false) y9.2.1 y9.2.2.1 ((),()))<|
 (I7.k t4 k0 k1).bind fun y3=>
 (Hm.k y3.1.1 b5.n y3.2.1 y3.2.2.1).bind fun y4=>
 (EK.k y3.1.1 y4.2.1 y4.2.2.1).bind fun y5=>
 (LX.k y5.2.1 y5.2.2.1).bind fun y6=>
 (Bl.k t2 (Dop.Ae.mk y5.1.1 b3.BB 0 0 false) y6.1.1 t4 y6.2.2.1 y6.2.2.2.1).bind fun y7=>
 (Dt.k y7.1.1.BB y7.2.1 y7.2.2.1).bind fun y8=>
 ci y8.1.1 ((Dt.k b3.BB y8.2.1 y8.2.2.1).bind fun y10=>
 (BO.k y7.1.1 b3.BB t4 y10.1.1 y10.2.1 y10.2.2.1).bind fun y11=>
 (Dh.k b5 y11.1.1 y11.2.1 y11.2.2.1).bind fun y12=>
 (EK.k y3.1.1 y12.2.1 y12.2.2.1).bind fun y13=>
 (EW.k y12.1.1 y13.1.1 y13.2.1 y13.2.2.1).bind fun y14=>
 (EW.k y4.1.1 y14.1.1 y14.2.1 y14.2.2.1).bind fun y15=>
 (EW.k t13 y15.1.1 y15.2.1 y15.2.2.1).bind fun y16=>
 Yr (Dop.Ae.mk y16.1.1 b3.BB 0 0 false) y16.2.1 y16.2.2.1 ((),()))<|
 (BO.k y7.1.1 b3.BB t4 false y8.2.1 y8.2.2.1).bind fun y10=>
 (Dh.k b5 y10.1.1 y10.2.1 y10.2.2.1).bind fun y11=>
 (EK.k y3.1.1 y11.2.1 y11.2.2.1).bind fun y12=>
 (EW.k y11.1.1 y12.1.1 y12.2.1 y12.2.2.1).bind fun y13=>
 (EW.k y4.1.1 y13.1.1 y13.2.1 y13.2.2.1).bind fun y14=>
 (EW.k t13 y14.1.1 y14.2.1 y14.2.2.1).bind fun y15=>
 Yr (Dop.Ae.mk y15.1.1 b3.BB 0 0 false) y15.2.1 y15.2.2.1 ((),())
def Ak.kS (tK:Ak.KT):Ak.KT:=(Gz.kB tK,())
def Ak.kL (n:Nat):Ak.KT:=C5 Ak.kS n
def Ak.k0 (tK:Ak.KT) (t1:Dop.Ae) (t2:List UInt8) (t4:Int) (t5:Bool) (k0:CK) (k1:CT):gv Dop.Ae CK CT (Unit×Unit):=
 let A1:=Dop.Ae.mk 0 0 0 0 false
 ci (!(k0.e=0)) ((Aw.k 8 t4 k0 k1).bind fun y3=>
 Yr y3.1.1 y3.2.1 y3.2.2.1 ((),()))<|
 ci (t1.left=0) ((Aw.k 8 t4 k0 k1).bind fun y4=>
 Yr y4.1.1 y4.2.1 y4.2.2.1 ((),()))<|
 (DZ.k t1.BB k1).bind fun y4=>
 ci (!y4.1.1) ((Aw.k 8 t4 k0 y4.2.1).bind fun y6=>
 Yr y6.1.1 y6.2.1 y6.2.2.1 ((),()))<|
 (Km.k t1 t4 k0 y4.2.1).bind fun y6=>
 ci (y6.1.2.1.left=1) ((EK.k y6.1.2.1.at_ y6.2.1 y6.2.2.1).bind fun y8=>
 tK.1 t2 t4 t5 y6.1.1 y8.2.1 y8.2.2.1 t1 A1 (Dop.Ae.mk y8.1.1 y6.1.2.1.BB y6.1.2.1.left y6.1.2.1.at_ y6.1.2.1.zero))<|
 tK.1 t2 t4 t5 y6.1.1 y6.2.1 y6.2.2.1 t1 A1 y6.1.2.1
def Ak.k (t1:Dop.Ae) (t2:List UInt8) (t4:Int) (t5:Bool) (k0:CK) (k1:CT):gv Dop.Ae CK CT (Unit×Unit):=Ak.k0 (Ak.kL 1000000) t1 t2 t4 t5 k0 k1
def Ak.Kc:=kd 133 Ak.p fun x=>Ak.k x.1.2.1 x.1.2.2.1 x.1.2.2.2.2.1 x.1.2.2.2.2.2.1 x.2.1 x.2.2.1
theorem Ak.Kh:Ak.Kc.Holds prog:=GB AH (hc DZ.Kh (hc Aw.Kh (hc Km.Kh (hc EK.Kh (hc LX.Kh (hc Bl.Kh (hc Dt.Kh (hc BO.Kh (hc Dh.Kh (hc EW.Kh (hc I7.Kh (hc Hm.Kh hn)))))))))))) Ak.ok (fun t x=>Ak.k0 t x.1.2.1 x.1.2.2.1 x.1.2.2.2.2.1 x.1.2.2.2.2.2.1 x.2.1 x.2.2.1) (fun c=>(fun t2 t4 t5 t13 k0 k1 b3 b4 b5=>c 6 Ak.q6 rfl (((),t2,(),t4,t5,(),(),t13,(),()),(k0,k1,((),()),(b3,()),(b4,()),(b5,()),())),())) Ak.kS (by kernel_rfl)
abbrev BV.kr (r:BN.T) (t1:Int) (k0:CK) (k1:CT):R2 Dop.Ae CK CT:=r.1 (((),t1,()),(k0,k1,()))
abbrev Ia.kr (r:BN.T) (t1:Dop.AZ) (t2:Int) (k0:CK) (k1:CT):R2 Dop.Ae CK CT:=r.2.1 (((),t1,t2,()),(k0,k1,()))
abbrev CE.kr (r:BN.T) (n:Int) (k0:CK) (k1:CT):R2 Dop.Ae CK CT:=r.2.2.1 (((),n,()),(k0,k1,()))
abbrev AW.kr (r:BN.T) (t1:Dop.Ae) (t2:List UInt8) (t4:Int) (t5:Bool) (k0:CK) (k1:CT) (b3:Dop.AZ):Option ((Dop.Ae×Unit)×(CK×CT×(Unit×Unit)×(Dop.AZ×Unit)×Unit)):=r.2.2.2.1 (((),t1,t2,(),t4,t5,()),(k0,k1,((),()),(b3,()),()))
abbrev Hk.kr (r:BN.T) (k1:CK) (k2:CT) (b3:Dop.AZ):Option ((Dop.Ae×Unit)×((Unit×Unit)×CK×CT×(Dop.AZ×Unit)×Unit)):=r.2.2.2.2.1 (((),(),()),(((),()),k1,k2,(b3,()),()))
abbrev HO.kr (r:BN.T) (t1:Dop.AZ) (t2:Int) (k0:CK) (k1:CT):R2 Dop.Ae CK CT:=r.2.2.2.2.2.1 (((),t1,t2,()),(k0,k1,()))
abbrev DQ.kr (r:BN.T) (t1:Dop.AZ) (t2:Int) (k0:CK) (k1:CT):R2 Dop.Ae CK CT:=r.2.2.2.2.2.2.1 (((),t1,t2,()),(k0,k1,()))
abbrev Pr.T:Type:=Int->CK->CT->Dop.Ae->Dop.AZ->R2 Dop.Ae CK CT
abbrev Lu.T:Type:=Int->CK->CT->Dop.Ae->Dop.AZ->R2 Dop.Ae CK CT
abbrev Lv.T:Type:=Int->CK->CT->Dop.Ae->Dop.AZ->R2 Dop.Ae CK CT
abbrev Lw.T:Type:=Int->Int->CK->CT->Dop.Ae->Dop.AZ->R2 Dop.Ae CK CT
abbrev BV.KT:Type:=Pr.T×Lu.T×Lv.T×Lw.T×Unit
def Pr.kB (rK:BN.T) (tK:BV.KT):Pr.T:=fun t6 k0 k1 b3 b4=>
 (Eu.k b4.n k0 k1).bind fun y2=>
 Ac (Dop.Ae.mk y2.1.1 t6 0 0 (decide (b4.n=0))) y2.2.1 y2.2.2.1
def Lu.kB (rK:BN.T) (tK:BV.KT):Lu.T:=fun t9 k0 k1 b3 b4=>
 (CE.kr rK b4.a k0 k1).bind fun y2=>
 (CE.kr rK b4.b y2.2.1 y2.2.2.1).bind fun y3=>
 (Ba.k t9 y2.1.1.n y3.1.1.n ((-1)) 0 [] y3.2.1 y3.2.2.1).bind fun y4=>
 Ac (Dop.Ae.mk y4.1.1 1 0 0 false) y4.2.1 y4.2.2.1
def Lv.kB (rK:BN.T) (tK:BV.KT):Lv.T:=fun t1 k0 k1 b3 b4=>
 (BV.kr rK b4.a k0 k1).bind fun y2=>
 ck ((0:Int)<=0/\(0:Int)<=1/\1<=I b4.text.length)<|
 (Ak.k y2.1.1 (List.drop (Int.toNat 0) (List.take (Int.toNat 1) b4.text)) t1 (decide (b4.kind=13)) y2.2.1 y2.2.2.1).bind BP
def Lw.kB (rK:BN.T) (tK:BV.KT):Lw.T:=fun t1 t36 k0 k1 b3 b4=>
 let A2:=C7.k b4.CC t1 k0 k1
 let A1:=CE.kr rK b4.a k0 k1
 ci (t36=6) (A1.bind fun y3=>
 (CE.kr rK b4.b y3.2.1 y3.2.2.1).bind fun y4=>
 (CE.kr rK b4.c y4.2.1 y4.2.2.1).bind fun y5=>
 (EL.k y3.1.1 y4.1.1 y5.1.1 t1 y5.2.1 y5.2.2.1).bind BP)<|
 ci (t36=7) (A1.bind fun y4=>
 (CE.kr rK b4.b y4.2.1 y4.2.2.1).bind fun y5=>
 ci (!(CK.e y5.2.1=0)) ((Aw.k 8 t1 y5.2.1 y5.2.2.1).bind BP)<|
 (Cu.k y4.1.1.BB y5.2.1 y5.2.2.1).bind fun y7=>
 ci (!(y7.1.1=4)) ((Aw.k 8 t1 y7.2.1 y7.2.2.1).bind BP)<|
 (Dt.k y5.1.1.BB y7.2.1 y7.2.2.1).bind fun y9=>
 ci (!y9.1.1) ((Aw.k 8 t1 y9.2.1 y9.2.2.1).bind BP)<|
 (Bl.k ([43]:List UInt8) y4.1.1 y5.1.1 t1 y9.2.1 y9.2.2.1).bind fun y11=>
 (JA.k y11.1.1 t1 y11.2.1 y11.2.2.1).bind BP)<|
 ci (t36=8) ((HO.kr rK b4 t1 k0 k1).bind BP)<|
 ci (t36=9) ((DQ.kr rK b4 t1 k0 k1).bind BP)<|
 ci (t36=10) (A2.bind fun y7=>
 (CE.kr rK b4.a y7.2.1 y7.2.2.1).bind fun y8=>
 (BO.k y8.1.1 y7.1.1 t1 true y8.2.1 y8.2.2.1).bind fun y9=>
 Ac (Dop.Ae.mk y9.1.1 y7.1.1 0 0 false) y9.2.1 y9.2.2.1)<|
 ci (t36=11) (A2.bind fun y8=>
 (Bf.k y8.1.1 y8.2.2.1).bind fun y9=>
 ci (!y9.1.2.1) ((Aw.k 8 t1 y8.2.1 y9.2.1).bind BP)<|
 (Eu.k y9.1.1 y8.2.1 y9.2.1).bind fun y11=>
 Ac (Dop.Ae.mk y11.1.1 2 0 0 false) y11.2.1 y11.2.2.1)<|
 ci (t36=14) ((Ba.k 13 ((-1)) ((-1)) ((-1)) 0 [] k0 k1).bind fun y9=>
 Ac (Dop.Ae.mk y9.1.1 1 0 0 false) y9.2.1 y9.2.2.1)<|
 A1.bind fun y9=>
 (Ba.k 14 y9.1.1.n ((-1)) ((-1)) 0 [] y9.2.1 y9.2.2.1).bind fun y10=>
 Ac (Dop.Ae.mk y10.1.1 1 0 0 false) y10.2.1 y10.2.2.1
def BV.kS (rK:BN.T) (tK:BV.KT):BV.KT:=(Pr.kB rK tK,Lu.kB rK tK,Lv.kB rK tK,Lw.kB rK tK,())
def BV.kL (rK:BN.T) (n:Nat):BV.KT:=C5 (BV.kS rK) n
def BV.k0 (rK:BN.T) (tK:BV.KT) (t1:Int) (k0:CK) (k1:CT):R2 Dop.Ae CK CT:=
 let A1:=Dop.Ae.mk 0 0 0 0 false
 ci (!(k0.e=0)) (Ac (Dop.Ae.mk (-1) 1 0 0 false) k0 k1)<|
 (N9.k t1 k0 k1).bind fun y3=>
 let z1:R2 Dop.Ae CK CT:=
 ci (y3.1.1.text=(124:UInt8)::(124:UInt8)::[]) (tK.2.1 11 y3.2.1 y3.2.2.1 A1 y3.1.1)<|
 tK.2.1 10 y3.2.1 y3.2.2.1 A1 y3.1.1
 ci (y3.1.1.kind=1) (ci (2147483648<=y3.1.1.n) (tK.1 2 y3.2.1 y3.2.2.1 A1 y3.1.1)<|
 tK.1 1 y3.2.1 y3.2.2.1 A1 y3.1.1)<|
 ci (y3.1.1.kind=2) (ck ((CK.names y3.2.1).length<9223372036854775807)<|
 ci (!(CZ y3.1.1.text (CK.names y3.2.1)).isSome) ((Aw.k 7 t1 y3.2.1 y3.2.2.1).bind BP)<|
 ci (((CZ y3.1.1.text (CK.names y3.2.1)).getD Dop.d9).kind=2) ((EK.k (((CZ y3.1.1.text (CK.names y3.2.1)).getD Dop.d9).n) y3.2.1 y3.2.2.1).bind fun y8=>
 Ac (Dop.Ae.mk y8.1.1 ((CZ y3.1.1.text (CK.names y3.2.1)).getD Dop.d9).BB 1 ((CZ y3.1.1.text (CK.names y3.2.1)).getD Dop.d9).n false) y8.2.1 y8.2.2.1)<|
 (Fe.k ((CZ y3.1.1.text (CK.names y3.2.1)).getD Dop.d9) y3.2.1 y3.2.2.1).bind fun y8=>
 (I9.k y8.1.1 (((CZ y3.1.1.text (CK.names y3.2.1)).getD Dop.d9).BB) y8.2.1 y8.2.2.1).bind BP)<|
 ci (y3.1.1.kind=3) ((Ia.kr rK y3.1.1 t1 y3.2.1 y3.2.2.1).bind BP)<|
 ci (y3.1.1.kind=4) (ci (y3.1.1.text=(38:UInt8)::(38:UInt8)::[]) (z1)<|
 ci (y3.1.1.text=(124:UInt8)::(124:UInt8)::[]) (z1)<|
 (CE.kr rK y3.1.1.a y3.2.1 y3.2.2.1).bind fun y10=>
 (CE.kr rK y3.1.1.b y10.2.1 y10.2.2.1).bind fun y11=>
 (Bl.k y3.1.1.text y10.1.1 y11.1.1 t1 y11.2.1 y11.2.2.1).bind BP)<|
 ci (y3.1.1.kind=5) ((BV.kr rK y3.1.1.a y3.2.1 y3.2.2.1).bind fun y9=>
 ci (CK.e y9.2.1=0) (ci (y9.1.1.left=0) ((Aw.k 8 t1 y9.2.1 y9.2.2.1).bind BP)<|
 (DZ.k y9.1.1.BB y9.2.2.1).bind fun y12=>
 ci (!y12.1.1) ((Aw.k 8 t1 y9.2.1 y12.2.1).bind BP)<|
 ci (y3.1.1.text=(61:UInt8)::[]) ((CE.kr rK y3.1.1.b y9.2.1 y12.2.1).bind fun y15=>
 (BO.k y15.1.1 y9.1.1.BB t1 false y15.2.1 y15.2.2.1).bind fun y16=>
 (Dh.k y9.1.1 y16.1.1 y16.2.1 y16.2.2.1).bind fun y17=>
 Ac (Dop.Ae.mk y17.1.1 y9.1.1.BB 0 0 false) y17.2.1 y17.2.2.1)<|
 ck (Vs y3.1.1.text)<|
 (AW.kr rK y9.1.1 (Lib.trimSuffix y3.1.1.text ([61]:List UInt8)) t1 false y9.2.1 y12.2.1 y3.1.1).bind BP)<|
 ci (y3.1.1.text=(61:UInt8)::[]) ((CE.kr rK y3.1.1.b y9.2.1 y9.2.2.1).bind fun y12=>
 (BO.k y12.1.1 y9.1.1.BB t1 false y12.2.1 y12.2.2.1).bind fun y13=>
 (Dh.k y9.1.1 y13.1.1 y13.2.1 y13.2.2.1).bind fun y14=>
 Ac (Dop.Ae.mk y14.1.1 y9.1.1.BB 0 0 false) y14.2.1 y14.2.2.1)<|
 ck (Vs y3.1.1.text)<|
 (AW.kr rK y9.1.1 (Lib.trimSuffix y3.1.1.text ([61]:List UInt8)) t1 false y9.2.1 y9.2.2.1 y3.1.1).bind BP)<|
 ci (y3.1.1.kind=12) (ci (y3.1.1.kind=12) (tK.2.2.1 t1 y3.2.1 y3.2.2.1 A1 y3.1.1)<|
 tK.2.2.2.1 t1 y3.1.1.kind y3.2.1 y3.2.2.1 A1 y3.1.1)<|
 ci (y3.1.1.kind=13) (tK.2.2.1 t1 y3.2.1 y3.2.2.1 A1 y3.1.1)<|
 tK.2.2.2.1 t1 y3.1.1.kind y3.2.1 y3.2.2.1 A1 y3.1.1
def BV.kf (rK:BN.T) (t1:Int) (k0:CK) (k1:CT):R2 Dop.Ae CK CT:=BV.k0 rK (BV.kL rK 1000000) t1 k0 k1
def Ia.kf (rK:BN.T) (t1:Dop.AZ) (t2:Int) (k0:CK) (k1:CT):R2 Dop.Ae CK CT:=
 let A1:=CE.kr rK t1.a k0 k1
 ci (t1.text=(42:UInt8)::[]) (A1.bind fun y3=>
 (JA.k y3.1.1 t2 y3.2.1 y3.2.2.1).bind BP)<|
 ci (t1.text=(38:UInt8)::[]) ((N9.k t1.a k0 k1).bind fun y4=>
 ci (y4.1.1.kind=2) (ck ((CK.names y4.2.1).length<9223372036854775807)<|
 ci (!(CZ y4.1.1.text (CK.names y4.2.1)).isSome) ((Aw.k 7 t1.a y4.2.1 y4.2.2.1).bind BP)<|
 (Fe.k ((CZ y4.1.1.text (CK.names y4.2.1)).getD Dop.d9) y4.2.1 y4.2.2.1).bind fun y7=>
 (JB.k (((CZ y4.1.1.text (CK.names y4.2.1)).getD Dop.d9).BB) y7.2.1 y7.2.2.1).bind fun y8=>
 Ac (Dop.Ae.mk y7.1.1 y8.1.1 0 0 false) y8.2.1 y8.2.2.1)<|
 (BV.kr rK t1.a y4.2.1 y4.2.2.1).bind fun y6=>
 ci (CK.e y6.2.1=0) (ci (!(y6.1.1.left=2)) ((Aw.k 8 t2 y6.2.1 y6.2.2.1).bind BP)<|
 (JB.k y6.1.1.BB y6.2.1 y6.2.2.1).bind fun y9=>
 Ac (Dop.Ae.mk y6.1.1.at_ y9.1.1 0 0 false) y9.2.1 y9.2.2.1)<|
 (JB.k y6.1.1.BB y6.2.1 y6.2.2.1).bind fun y8=>
 Ac (Dop.Ae.mk y6.1.1.at_ y8.1.1 0 0 false) y8.2.1 y8.2.2.1)<|
 ci (t1.text=(33:UInt8)::[]) (A1.bind fun y5=>
 (Hl.k 23 y5.1.1.n y5.2.1 y5.2.2.1).bind fun y6=>
 Ac (Dop.Ae.mk y6.1.1 1 0 0 false) y6.2.1 y6.2.2.1)<|
 A1.bind fun y5=>
 ci (CK.e y5.2.1=0) ((Dt.k y5.1.1.BB y5.2.1 y5.2.2.1).bind fun y7=>
 ci (!y7.1.1) ((Aw.k 8 t2 y7.2.1 y7.2.2.1).bind BP)<|
 ci (t1.text=(126:UInt8)::[]) ((Hl.k 21 y5.1.1.n y7.2.1 y7.2.2.1).bind fun y10=>
 (G0.k y5.1.1.BB y5.1.1.BB y10.2.1 y10.2.2.1).bind fun y11=>
 Ac (Dop.Ae.mk y10.1.1 y11.1.1 0 0 false) y11.2.1 y11.2.2.1)<|
 (Hl.k 20 y5.1.1.n y7.2.1 y7.2.2.1).bind fun y10=>
 (G0.k y5.1.1.BB y5.1.1.BB y10.2.1 y10.2.2.1).bind fun y11=>
 Ac (Dop.Ae.mk y10.1.1 y11.1.1 0 0 false) y11.2.1 y11.2.2.1)<|
 ci (t1.text=(126:UInt8)::[]) ((Hl.k 21 y5.1.1.n y5.2.1 y5.2.2.1).bind fun y8=>
 (G0.k y5.1.1.BB y5.1.1.BB y8.2.1 y8.2.2.1).bind fun y9=>
 Ac (Dop.Ae.mk y8.1.1 y9.1.1 0 0 false) y9.2.1 y9.2.2.1)<|
 (Hl.k 20 y5.1.1.n y5.2.1 y5.2.2.1).bind fun y8=>
 (G0.k y5.1.1.BB y5.1.1.BB y8.2.1 y8.2.2.1).bind fun y9=>
 Ac (Dop.Ae.mk y8.1.1 y9.1.1 0 0 false) y9.2.1 y9.2.2.1
def CE.kf (rK:BN.T) (n:Int) (k0:CK) (k1:CT):R2 Dop.Ae CK CT:=
 (BV.kr rK n k0 k1).bind fun y2=>
 ci (CK.e y2.2.1=0) ((DZ.k y2.1.1.BB y2.2.2.1).bind fun y4=>
 ci (!y4.1.1) ((Aw.k 8 n y2.2.1 y4.2.1).bind BP)<|
 Ac y2.1.1 y2.2.1 y4.2.1)<|
 Ac y2.1.1 y2.2.1 y2.2.2.1
abbrev Gy.T:Type:=List UInt8->Int->Bool->Int->CK->CT->Dop.AZ->Dop.Ae->Dop.Ae->Dop.Ae->Option ((Dop.Ae×Unit)×(CK×CT×(Unit×Unit)×(Dop.AZ×Unit)×Unit))
abbrev AW.KT:Type:=Gy.T×Unit
def Gy.kB (rK:BN.T) (tK:AW.KT):Gy.T:=fun t2 t4 t5 t13 k0 k1 b3 b4 b5 b6=>
 ci (!t5) ((Hk.kr rK k0 k1 b3).bind fun y3=>
 (Bl.k t2 b6 y3.1.1 t4 y3.2.2.1 y3.2.2.2.1).bind fun y4=>
 (Dt.k y4.1.1.BB y4.2.1 y4.2.2.1).bind fun y5=>
 ci y5.1.1 ((Dt.k b4.BB y5.2.1 y5.2.2.1).bind fun y7=>
 (BO.k y4.1.1 b4.BB t4 y7.1.1 y7.2.1 y7.2.2.1).bind fun y8=>
 (Dh.k b6 y8.1.1 y8.2.1 y8.2.2.1).bind fun y9=>
 (EW.k t13 y9.1.1 y9.2.1 y9.2.2.1).bind fun y10=>
 some ((Dop.Ae.mk y10.1.1 b4.BB 0 0 false,()),(y10.2.1,(y10.2.2.1,(((),()),((y3.2.2.2.2.1.1,()),()))))))<|
 (BO.k y4.1.1 b4.BB t4 false y5.2.1 y5.2.2.1).bind fun y7=>
 (Dh.k b6 y7.1.1 y7.2.1 y7.2.2.1).bind fun y8=>
 (EW.k t13 y8.1.1 y8.2.1 y8.2.2.1).bind fun y9=>
 some ((Dop.Ae.mk y9.1.1 b4.BB 0 0 false,()),(y9.2.1,(y9.2.2.1,(((),()),((y3.2.2.2.2.1.1,()),()))))))<|
 (I7.k t4 k0 k1).bind fun y3=>
 (Hm.k y3.1.1 b6.n y3.2.1 y3.2.2.1).bind fun y4=>
 (EK.k y3.1.1 y4.2.1 y4.2.2.1).bind fun y5=>
 (Hk.kr rK y5.2.1 y5.2.2.1 b3).bind fun y6=>
 (Bl.k t2 (Dop.Ae.mk y5.1.1 b4.BB 0 0 false) y6.1.1 t4 y6.2.2.1 y6.2.2.2.1).bind fun y7=>
 (Dt.k y7.1.1.BB y7.2.1 y7.2.2.1).bind fun y8=>
 ci y8.1.1 ((Dt.k b4.BB y8.2.1 y8.2.2.1).bind fun y10=>
 (BO.k y7.1.1 b4.BB t4 y10.1.1 y10.2.1 y10.2.2.1).bind fun y11=>
 (Dh.k b6 y11.1.1 y11.2.1 y11.2.2.1).bind fun y12=>
 (EK.k y3.1.1 y12.2.1 y12.2.2.1).bind fun y13=>
 (EW.k y12.1.1 y13.1.1 y13.2.1 y13.2.2.1).bind fun y14=>
 (EW.k y4.1.1 y14.1.1 y14.2.1 y14.2.2.1).bind fun y15=>
 (EW.k t13 y15.1.1 y15.2.1 y15.2.2.1).bind fun y16=>
 some ((Dop.Ae.mk y16.1.1 b4.BB 0 0 false,()),(y16.2.1,(y16.2.2.1,(((),()),((y6.2.2.2.2.1.1,()),()))))))<|
 (BO.k y7.1.1 b4.BB t4 false y8.2.1 y8.2.2.1).bind fun y10=>
 (Dh.k b6 y10.1.1 y10.2.1 y10.2.2.1).bind fun y11=>
 (EK.k y3.1.1 y11.2.1 y11.2.2.1).bind fun y12=>
 (EW.k y11.1.1 y12.1.1 y12.2.1 y12.2.2.1).bind fun y13=>
 (EW.k y4.1.1 y13.1.1 y13.2.1 y13.2.2.1).bind fun y14=>
 (EW.k t13 y14.1.1 y14.2.1 y14.2.2.1).bind fun y15=>
 some ((Dop.Ae.mk y15.1.1 b4.BB 0 0 false,()),(y15.2.1,(y15.2.2.1,(((),()),((y6.2.2.2.2.1.1,()),())))))
def AW.kS (rK:BN.T) (tK:AW.KT):AW.KT:=(Gy.kB rK tK,())
def AW.kL (rK:BN.T) (n:Nat):AW.KT:=C5 (AW.kS rK) n
def AW.k0 (rK:BN.T) (tK:AW.KT) (t1:Dop.Ae) (t2:List UInt8) (t4:Int) (t5:Bool) (k0:CK) (k1:CT) (b3:Dop.AZ):Option ((Dop.Ae×Unit)×(CK×CT×(Unit×Unit)×(Dop.AZ×Unit)×Unit)):=
 let A1:=Dop.Ae.mk 0 0 0 0 false
 ci (!(k0.e=0)) ((Aw.k 8 t4 k0 k1).bind fun y3=>
 some ((y3.1.1,()),(y3.2.1,(y3.2.2.1,(((),()),((b3,()),()))))))<|
 ci (t1.left=0) ((Aw.k 8 t4 k0 k1).bind fun y4=>
 some ((y4.1.1,()),(y4.2.1,(y4.2.2.1,(((),()),((b3,()),()))))))<|
 (DZ.k t1.BB k1).bind fun y4=>
 ci (!y4.1.1) ((Aw.k 8 t4 k0 y4.2.1).bind fun y6=>
 some ((y6.1.1,()),(y6.2.1,(y6.2.2.1,(((),()),((b3,()),()))))))<|
 (Km.k t1 t4 k0 y4.2.1).bind fun y6=>
 ci (y6.1.2.1.left=1) ((EK.k y6.1.2.1.at_ y6.2.1 y6.2.2.1).bind fun y8=>
 tK.1 t2 t4 t5 y6.1.1 y8.2.1 y8.2.2.1 b3 t1 A1 (Dop.Ae.mk y8.1.1 y6.1.2.1.BB y6.1.2.1.left y6.1.2.1.at_ y6.1.2.1.zero))<|
 tK.1 t2 t4 t5 y6.1.1 y6.2.1 y6.2.2.1 b3 t1 A1 y6.1.2.1
def AW.kf (rK:BN.T) (t1:Dop.Ae) (t2:List UInt8) (t4:Int) (t5:Bool) (k0:CK) (k1:CT) (b3:Dop.AZ):Option ((Dop.Ae×Unit)×(CK×CT×(Unit×Unit)×(Dop.AZ×Unit)×Unit)):=AW.k0 rK (AW.kL rK 1000000) t1 t2 t4 t5 k0 k1 b3
def Hk.kf (rK:BN.T) (k1:CK) (k2:CT) (b3:Dop.AZ):Option ((Dop.Ae×Unit)×((Unit×Unit)×CK×CT×(Dop.AZ×Unit)×Unit)):=
 (CE.kr rK b3.b k1 k2).bind fun y2=>
 some ((y2.1.1,()),(((),()),(y2.2.1,(y2.2.2.1,((b3,()),())))))
def HO.kf (rK:BN.T) (t1:Dop.AZ) (t2:Int) (k0:CK) (k1:CT):R2 Dop.Ae CK CT:=(Aj (S:=Dop.D4) prog 139 tb (BN.ct rK++[JA.Kc,Cu.Kc,Aw.Kc,Hn.Kc,Eu.Kc,Cq.Kc,I9.Kc]) HO.p).J6 3000 1000000 HO.p.sp (((),t1,t2,()),(k0,k1,()))
abbrev Pv.T:Type:=List Int->List Int->Int->Int->CK->CT->Dop.AZ->Dop.Ae->Dop.N8->R2 Dop.Ae CK CT
abbrev DQ.KT:Type:=Pv.T×Unit
def Pv.kB (rK:BN.T) (tK:DQ.KT):Pv.T:=fun t10 t45 t46 t47 k0 k1 b2 b3 b4=>
 let A1:=List.getD t45 t47.toNat 0
 ci (t47<t46) (ck (0<=t47/\t47<I t45.length)<|
 ck (t47.toNat<t45.length)<|
 (CE.kr rK A1 k0 k1).bind fun y3=>
 ck (0<=t47/\t47<I b4.params.length)<|
 (BO.k y3.1.1 (List.getD b4.params t47.toNat 0) A1 false y3.2.1 y3.2.2.1).bind fun y4=>
 ck (DK none (room 8 (t10.length+(y4.1.1::[]).length)))<|
 ck (BD (t47+1))<|
 tK.1 (t10++y4.1.1::[]) t45 t46 (t47+1) y4.2.1 y4.2.2.1 b2 b3 b4)<|
 (Ab.k t10 k0 k1).bind fun y3=>
 (Ba.k 12 y3.1.1 ((-1)) ((-1)) 0 b2.text y3.2.1 y3.2.2.1).bind fun y4=>
 Ac (Dop.Ae.mk y4.1.1 b4.DI 0 0 false) y4.2.1 y4.2.2.1
def DQ.kS (rK:BN.T) (tK:DQ.KT):DQ.KT:=(Pv.kB rK tK,())
def DQ.kL (rK:BN.T) (n:Nat):DQ.KT:=C5 (DQ.kS rK) n
def DQ.k0 (rK:BN.T) (tK:DQ.KT) (t1:Dop.AZ) (t2:Int) (k0:CK) (k1:CT):R2 Dop.Ae CK CT:=
 let A1:=AM k0.sigs t1.text
 ci (!A1.isSome) ((Aw.k 7 t2 k0 k1).bind BP)<|
 (Gf.k k0.t t1.a).bind fun y3=>
 ci (!(I y3.1.1.length=I (A1.getD Dop.d15).params.length)) ((Aw.k 8 t2 k0 k1).bind BP)<|
 tK.1 [] y3.1.1 (I y3.1.1.length) 0 k0 k1 t1 (Dop.Ae.mk 0 0 0 0 false) (A1.getD Dop.d15)
def DQ.kf (rK:BN.T) (t1:Dop.AZ) (t2:Int) (k0:CK) (k1:CT):R2 Dop.Ae CK CT:=DQ.k0 rK (DQ.kL rK 1000000) t1 t2 k0 k1
def BN.kS (r:BN.T):BN.T:=(fun x=>BV.kf r x.1.2.1 x.2.1 x.2.2.1,fun x=>Ia.kf r x.1.2.1 x.1.2.2.1 x.2.1 x.2.2.1,fun x=>CE.kf r x.1.2.1 x.2.1 x.2.2.1,fun x=>AW.kf r x.1.2.1 x.1.2.2.1 x.1.2.2.2.2.1 x.1.2.2.2.2.2.1 x.2.1 x.2.2.1 x.2.2.2.2.1.1,fun x=>Hk.kf r x.2.2.1 x.2.2.2.1 x.2.2.2.2.1.1,fun x=>HO.kf r x.1.2.1 x.1.2.2.1 x.2.1 x.2.2.1,fun x=>DQ.kf r x.1.2.1 x.1.2.2.1 x.2.1 x.2.2.1,())
def BN.kR (n:Nat):BN.T:=C5 BN.kS n
def BV.Kc (n:Nat):=kd 106 BV.p (BN.kR n).1
def BV.LO:=BV.Kc FU
def BV.k:=BV.kr (BN.kR FU)
def Ia.Kc (n:Nat):=kd 131 Ia.p (BN.kR n).2.1
def CE.Kc (n:Nat):=kd 81 CE.p (BN.kR n).2.2.1
def CE.LO:=CE.Kc FU
def CE.k:=CE.kr (BN.kR FU)
def AW.Kc (n:Nat):=kd 133 AW.p (BN.kR n).2.2.2.1
def Hk.Kc (n:Nat):=kd 135 Hk.p (BN.kR n).2.2.2.2.1
def HO.Kc (n:Nat):=kd 139 HO.p (BN.kR n).2.2.2.2.2.1
def DQ.Kc (n:Nat):=kd 140 DQ.p (BN.kR n).2.2.2.2.2.2.1
def BN.SK (n:Nat):List (By Dop.D4):=[BV.Kc n,Ia.Kc n,CE.Kc n,AW.Kc n,Hk.Kc n,HO.Kc n,DQ.Kc n]
theorem BN.E5: ∀ n,(BV.Kc n).Holds prog/\(Ia.Kc n).Holds prog/\(CE.Kc n).Holds prog/\(AW.Kc n).Holds prog/\(Hk.Kc n).Holds prog/\(HO.Kc n).Holds prog/\(DQ.Kc n).Holds prog/\True
 | 0=>⟨AO AH BV.ok,AO AH Ia.ok,AO AH CE.ok,AO AH AW.ok,AO AH Hk.ok,AO AH HO.ok,AO AH DQ.ok,trivial⟩
 | n+1=>by
  obtain ⟨h0,h1,h2,h3,h4,h5,h6,_⟩:=BN.E5 n
  have hh: ∀ c∈BN.SK n,c.Holds prog:=(hc h0 (hc h1 (hc h2 (hc h3 (hc h4 (hc h5 (hc h6 hn)))))))
  exact ⟨GB AH (Ad hh (hc N9.Kh (hc Eu.Kh (hc Dw.holds (hc Aw.Kh (hc EK.Kh (hc Fe.Kh (hc I9.Kh (hc Ba.Kh (hc Bl.Kh (hc DZ.Kh (hc BO.Kh (hc Dh.Kh (hc trimSuffix.holds (hc Ak.Kh (hc EL.Kh (hc Cu.Kh (hc Dt.Kh (hc JA.Kh (hc C7.Kh (hc Bf.Ie hn))))))))))))))))))))) BV.ok (fun t x=>BV.k0 (BN.kR n) t x.1.2.1 x.2.1 x.2.2.1) (fun c=>(fun t6 k0 k1 b3 b4=>c 9 BV.q9 rfl (((),(),(),t6,()),(k0,k1,((),()),(b3,()),(b4,()),())),fun t9 k0 k1 b3 b4=>c 24 BV.Yq rfl (((),(),(),t9,()),(k0,k1,((),()),(b3,()),(b4,()),())),fun t1 k0 k1 b3 b4=>c 40 BV.nM rfl ((t1,(),(),(),()),(k0,k1,((),()),(b3,()),(b4,()),())),fun t1 t36 k0 k1 b3 b4=>c 41 BV.nN rfl ((t1,(),(),(),t36,()),(k0,k1,((),()),(b3,()),(b4,()),())),())) (BV.kS (BN.kR n)) (by kernel_rfl),
   kh AH (Ad hh (hc JA.Kh (hc N9.Kh (hc Dw.holds (hc Aw.Kh (hc Fe.Kh (hc JB.Kh (hc Hl.Kh (hc Dt.Kh (hc G0.Kh hn)))))))))) Ia.ok (by kernel_rfl),
   kh AH (Ad hh (hc DZ.Kh (hc Aw.Kh hn))) CE.ok (by kernel_rfl),
   GB AH (Ad hh (hc DZ.Kh (hc Aw.Kh (hc Km.Kh (hc EK.Kh (hc Bl.Kh (hc Dt.Kh (hc BO.Kh (hc Dh.Kh (hc EW.Kh (hc I7.Kh (hc Hm.Kh hn)))))))))))) AW.ok (fun t x=>AW.k0 (BN.kR n) t x.1.2.1 x.1.2.2.1 x.1.2.2.2.2.1 x.1.2.2.2.2.2.1 x.2.1 x.2.2.1 x.2.2.2.2.1.1) (fun c=>(fun t2 t4 t5 t13 k0 k1 b3 b4 b5 b6=>c 6 AW.q6 rfl (((),t2,(),t4,t5,(),(),t13,(),()),(k0,k1,((),()),(b3,()),(b4,()),(b5,()),(b6,()),())),())) (AW.kS (BN.kR n)) (by kernel_rfl),
   kh AH (Ad hh hn) Hk.ok (by kernel_rfl),
   kh AH (Ad hh (hc JA.Kh (hc Cu.Kh (hc Aw.Kh (hc Hn.Kh (hc Eu.Kh (hc Cq.Kh (hc I9.Kh hn)))))))) HO.ok (by kernel_rfl),
   GB AH (Ad hh (hc Aw.Kh (hc Gf.Kh (hc BO.Kh (hc Ab.Kh (hc Ba.Kh hn)))))) DQ.ok (fun t x=>DQ.k0 (BN.kR n) t x.1.2.1 x.1.2.2.1 x.2.1 x.2.2.1) (fun c=>(fun t10 t45 t46 t47 k0 k1 b2 b3 b4=>c 9 DQ.q9 rfl (((),(),(),(),t10,t45,t46,t47,()),(k0,k1,(b2,()),(b3,()),(b4,()),())),())) (DQ.kS (BN.kR n)) (by kernel_rfl),
   trivial⟩
theorem BV.Ie:BV.LO.Holds prog:=(BN.E5 FU).1
theorem CE.Ie:CE.LO.Holds prog:=(BN.E5 FU).2.2.1
def ND.k (s:List Dop.WO):HH (List Dop.WO):=
 ck (YV s)<|
 ck (DK none (room 24 (([]:List Dop.WO).length+s.length)))<|
 Ez ([]++s)
def ND.Kc:=kd 76 ND.p fun x=>ND.k x.1.1
theorem ND.Kh:ND.Kc.Holds prog:=kh AH hn ND.ok (by kernel_rfl)
def Gt.KE:Env Dop.D4:=Aj prog 33 tb [I6.Kc,Bf.LO,ND.Kc] Gt.p
def Gt.k (t1:List UInt8) (t2:List Dop.WO) (k0:CT):R1 Int CT:=Gt.KE.J6 3000 1000000 Gt.p.sp (((),t1,t2,()),(k0,()))
def Gt.Kc:=kd 33 Gt.p fun x=>Gt.k x.1.2.1 x.1.2.2.1 x.2.1
theorem Gt.Kh:Gt.Kc.Holds prog:=kh AH (hc I6.Kh (hc Bf.Ie (hc ND.Kh hn))) Gt.ok (by kernel_rfl)
end
end Go.Proofs.Tryz
