/-
 Functions in plain words (what their equations say), and their contracts. Written by a program.
-/
import Derived.Test.YtkpggdcpaeanaaaGreatDoorTwQ
import Derived.Test.YtkpggdcpaeanaaaGreatDoorMo
set_option linter.all false
set_option maxRecDepth 100000
set_option maxHeartbeats 4000000
namespace Go.Proofs.Tryz
open Go Go.En
noncomputable section
def Cv.k (n:Int) (b0_0:Dop.G2) (b0_2:List Int) (b0_3:List Dop.Eh) (b0_4:List Dop.Nl) (b0_5:Int) (b0_6:List Dop.AU) (b0_7:List (List (List UInt8×Dop.Da))) (b0_8:List (List UInt8×Dop.QF)) (b0_10:Dop.Eh) (b0_11 b0_14:Int) (b0_15:List (List (Int×Int))) (b0_16 b0_17 b0_18:Int) (k1:CT):R2 Dop.AU (List Dop.AU×List Dop.HH×Int×Unit×List Int×List Dop.Eh×List Dop.Nl×Int×List Dop.AU×List (List (List UInt8×Dop.Da))×List (List UInt8×Dop.QF)×Unit×List UInt8×Int×Int×Int×Int×Int×Unit×Unit×Int×List (List (Int×Int))×Int×Int×Int×Unit) CT:=
 let A1:=Dop.AU.mk 0 (-1) (-1) (-1) (-1) [] 0 0 0
 ci (n<0) (Ah A1 (b0_0.nodes,(b0_0.types,(b0_0.top,((),(b0_2,(b0_3,(b0_4,(b0_5,(b0_6,(b0_7,(b0_8,((),(b0_10.name,(b0_10.params,(b0_10.An,(b0_10.frame,(b0_10.body,(b0_11,((),((),(b0_14,(b0_15,(b0_16,(b0_17,(b0_18,()))))))))))))))))))))))))) k1)<|
 ci (I b0_0.nodes.length<=n) (Ah A1 (b0_0.nodes,(b0_0.types,(b0_0.top,((),(b0_2,(b0_3,(b0_4,(b0_5,(b0_6,(b0_7,(b0_8,((),(b0_10.name,(b0_10.params,(b0_10.An,(b0_10.frame,(b0_10.body,(b0_11,((),((),(b0_14,(b0_15,(b0_16,(b0_17,(b0_18,()))))))))))))))))))))))))) k1)<|
 ck (0<=n/\n<I b0_0.nodes.length)<|
 Ah (List.getD b0_0.nodes n.toNat Dop.d5) (b0_0.nodes,(b0_0.types,(b0_0.top,((),(b0_2,(b0_3,(b0_4,(b0_5,(b0_6,(b0_7,(b0_8,((),(b0_10.name,(b0_10.params,(b0_10.An,(b0_10.frame,(b0_10.body,(b0_11,((),((),(b0_14,(b0_15,(b0_16,(b0_17,(b0_18,()))))))))))))))))))))))))) k1
def Cv.Kc:=kd 74 Cv.p fun x=>Cv.k x.1.2.1 x.2.1.1 x.2.1.2.2.1 x.2.1.2.2.2.1 x.2.1.2.2.2.2.1 x.2.1.2.2.2.2.2.1 x.2.1.2.2.2.2.2.2.1 x.2.1.2.2.2.2.2.2.2.1 x.2.1.2.2.2.2.2.2.2.2.1 x.2.1.2.2.2.2.2.2.2.2.2.2.1 x.2.1.2.2.2.2.2.2.2.2.2.2.2.1 x.2.1.2.2.2.2.2.2.2.2.2.2.2.2.2.2.1 x.2.1.2.2.2.2.2.2.2.2.2.2.2.2.2.2.2.1 x.2.1.2.2.2.2.2.2.2.2.2.2.2.2.2.2.2.2.1 x.2.1.2.2.2.2.2.2.2.2.2.2.2.2.2.2.2.2.2.1 x.2.1.2.2.2.2.2.2.2.2.2.2.2.2.2.2.2.2.2.2.1 x.2.2.1
theorem Cv.Kh:Cv.Kc.Holds prog:=kh AH hn Cv.ok (by kernel_rfl)
def M0.k (n:Int) (b0_0:Dop.G2) (b0_2:List Int) (b0_3:List Dop.Eh) (b0_4:List Dop.Nl) (b0_5:Int) (b0_6:List Dop.AU) (b0_8:List (List UInt8×Dop.QF)) (b0_9:List (List UInt8×Int)) (b0_10:Dop.Eh) (b0_11:Int) (b0_12 b0_13:List (List UInt8×Int)) (b0_14:Int) (b0_15:List (List (Int×Int))) (b0_16 b0_17 b0_18:Int) (k1:CT) (b2:List (List (List UInt8×Dop.Da))):kI Dop.AU (List Dop.AU×List Dop.HH×Int×Unit×List Int×List Dop.Eh×List Dop.Nl×Int×List Dop.AU×Unit×List (List UInt8×Dop.QF)×List (List UInt8×Int)×List UInt8×Int×Int×Int×Int×Int×List (List UInt8×Int)×List (List UInt8×Int)×Int×List (List (Int×Int))×Int×Int×Int×Unit) CT (List (List (List UInt8×Dop.Da))×Unit):=
 let A1:=Dop.AU.mk 0 (-1) (-1) (-1) (-1) [] 0 0 0
 ci (n<0) (kb A1 (b0_0.nodes,(b0_0.types,(b0_0.top,((),(b0_2,(b0_3,(b0_4,(b0_5,(b0_6,((),(b0_8,(b0_9,(b0_10.name,(b0_10.params,(b0_10.An,(b0_10.frame,(b0_10.body,(b0_11,(b0_12,(b0_13,(b0_14,(b0_15,(b0_16,(b0_17,(b0_18,()))))))))))))))))))))))))) k1 (b2,()))<|
 ci (I b0_0.nodes.length<=n) (kb A1 (b0_0.nodes,(b0_0.types,(b0_0.top,((),(b0_2,(b0_3,(b0_4,(b0_5,(b0_6,((),(b0_8,(b0_9,(b0_10.name,(b0_10.params,(b0_10.An,(b0_10.frame,(b0_10.body,(b0_11,(b0_12,(b0_13,(b0_14,(b0_15,(b0_16,(b0_17,(b0_18,()))))))))))))))))))))))))) k1 (b2,()))<|
 ck (0<=n/\n<I b0_0.nodes.length)<|
 kb (List.getD b0_0.nodes n.toNat Dop.d5) (b0_0.nodes,(b0_0.types,(b0_0.top,((),(b0_2,(b0_3,(b0_4,(b0_5,(b0_6,((),(b0_8,(b0_9,(b0_10.name,(b0_10.params,(b0_10.An,(b0_10.frame,(b0_10.body,(b0_11,(b0_12,(b0_13,(b0_14,(b0_15,(b0_16,(b0_17,(b0_18,()))))))))))))))))))))))))) k1 (b2,())
def M0.Kc:=kd 74 M0.p fun x=>M0.k x.1.2.1 x.2.1.1 x.2.1.2.2.1 x.2.1.2.2.2.1 x.2.1.2.2.2.2.1 x.2.1.2.2.2.2.2.1 x.2.1.2.2.2.2.2.2.1 x.2.1.2.2.2.2.2.2.2.2.1 x.2.1.2.2.2.2.2.2.2.2.2.1 x.2.1.2.2.2.2.2.2.2.2.2.2.1 x.2.1.2.2.2.2.2.2.2.2.2.2.2.1 x.2.1.2.2.2.2.2.2.2.2.2.2.2.2.1 x.2.1.2.2.2.2.2.2.2.2.2.2.2.2.2.1 x.2.1.2.2.2.2.2.2.2.2.2.2.2.2.2.2.1 x.2.1.2.2.2.2.2.2.2.2.2.2.2.2.2.2.2.1 x.2.1.2.2.2.2.2.2.2.2.2.2.2.2.2.2.2.2.1 x.2.1.2.2.2.2.2.2.2.2.2.2.2.2.2.2.2.2.2.1 x.2.1.2.2.2.2.2.2.2.2.2.2.2.2.2.2.2.2.2.2.1 x.2.2.1 x.2.2.2.1.1
theorem M0.Kh:M0.Kc.Holds prog:=kh AH hn M0.ok (by kernel_rfl)
def Mw.k (k1:CK) (k2:CT):kI Dop.Ao (Unit×Unit) CK CT:=
 (ED.k 1 k1 k2).bind fun y2=>
 kb (Dop.Ao.mk y2.1.1 1 0 0 false) ((),()) y2.2.1 y2.2.2.1
def Mw.Kc:=kd 223 Mw.p fun x=>Mw.k x.2.2.1 x.2.2.2.1
theorem Mw.Kh:Mw.Kc.Holds prog:=kh AH (hc ED.Kh hn) Mw.ok (by kernel_rfl)
def BX.KE:Env Dop.D4:=Ac prog 220 tb [DX.Kc,Au.Kc,KO.Kc,FY.Kc,Mw.Kc,Bo.Kc,FL.Kc,BR.Kc,EP.Kc,KP.Kc,Iv.Kc,He.Kc] BX.p
def BX.k (t1:Dop.Ao) (t2:List UInt8) (t4:Int) (t5:Bool) (k0:CK) (k1:CT):kI Dop.Ao CK CT (Unit×Unit):=BX.KE.Ez 3000 1000000 BX.p.sp (((),t1,t2,(),t4,t5,()),(k0,k1,((),()),()))
def BX.Kc:=kd 220 BX.p fun x=>BX.k x.1.2.1 x.1.2.2.1 x.1.2.2.2.2.1 x.1.2.2.2.2.2.1 x.2.1 x.2.2.1
theorem BX.Kh:BX.Kc.Holds prog:=kh AH (hc DX.Kh (hc Au.Kh (hc KO.Kh (hc FY.Kh (hc Mw.Kh (hc Bo.Kh (hc FL.Kh (hc BR.Kh (hc EP.Kh (hc KP.Kh (hc Iv.Kh (hc He.Kh hn)))))))))))) BX.ok (by kernel_rfl)
abbrev A9.kr (r:Bi.T) (t1:Int) (k0:CK) (k1:CT):R2 Dop.Ao CK CT:=r.1 (((),t1,()),(k0,k1,()))
abbrev IJ.kr (r:Bi.T) (t1:Dop.AU) (t2:Int) (k0:CK) (k1:CT):R2 Dop.Ao CK CT:=r.2.1 (((),t1,t2,()),(k0,k1,()))
abbrev CE.kr (r:Bi.T) (n:Int) (k0:CK) (k1:CT):R2 Dop.Ao CK CT:=r.2.2.1 (((),n,()),(k0,k1,()))
abbrev BA.kr (r:Bi.T) (t1:Dop.Ao) (t2:List UInt8) (t4:Int) (t5:Bool) (k0:CK) (k1:CT) (b3:Dop.AU):Option ((Dop.Ao×Unit)×(CK×CT×(Unit×Unit)×(Dop.AU×Unit)×Unit)):=r.2.2.2.1 (((),t1,t2,(),t4,t5,()),(k0,k1,((),()),(b3,()),()))
abbrev HD.kr (r:Bi.T) (t1:Dop.AU) (t2:Int) (k0:CK) (k1:CT):R2 Dop.Ao CK CT:=r.2.2.2.2.2.1 (((),t1,t2,()),(k0,k1,()))
abbrev GM.kr (r:Bi.T) (t1:Dop.AU) (t2:Int) (k0:CK) (k1:CT):R2 Dop.Ao CK CT:=r.2.2.2.2.2.2.1 (((),t1,t2,()),(k0,k1,()))
abbrev Ha.T:Type:=Int->CK->CT->Dop.Ao->Dop.AU->R2 Dop.Ao CK CT
abbrev Lk.T:Type:=Int->CK->CT->Dop.Ao->Dop.AU->R2 Dop.Ao CK CT
abbrev Ll.T:Type:=Int->CK->CT->Dop.Ao->Dop.AU->R2 Dop.Ao CK CT
abbrev Lm.T:Type:=Int->Int->CK->CT->Dop.Ao->Dop.AU->R2 Dop.Ao CK CT
abbrev A9.KT:Type:=Ha.T×Lk.T×Ll.T×Lm.T×Unit
def Ha.kB (rK:Bi.T) (tK:A9.KT):Ha.T:=fun t6 k0 k1 b3 b4=>
 (ED.k b4.n k0 k1).bind fun y2=>
 Ah (Dop.Ao.mk y2.1.1 t6 0 0 (decide (b4.n=0))) y2.2.1 y2.2.2.1
def Lk.kB (rK:Bi.T) (tK:A9.KT):Lk.T:=fun t9 k0 k1 b3 b4=>
 (CE.kr rK b4.a k0 k1).bind fun y2=>
 (CE.kr rK b4.b y2.2.1 y2.2.2.1).bind fun y3=>
 (BU.k t9 y2.1.1.n y3.1.1.n ((-1)) 0 [] y3.2.1 y3.2.2.1).bind fun y4=>
 Ah (Dop.Ao.mk y4.1.1 1 0 0 false) y4.2.1 y4.2.2.1
def Ll.kB (rK:Bi.T) (tK:A9.KT):Ll.T:=fun t1 k0 k1 b3 b4=>
 (A9.kr rK b4.a k0 k1).bind fun y2=>
 ck ((0:Int)<=0/\(0:Int)<=1/\1<=I b4.text.length)<|
 (BX.k y2.1.1 (List.drop (Int.toNat 0) (List.take (Int.toNat 1) b4.text)) t1 (decide (b4.kind=13)) y2.2.1 y2.2.2.1).bind Bp
def Lm.kB (rK:Bi.T) (tK:A9.KT):Lm.T:=fun t1 t36 k0 k1 b3 b4=>
 let A2:=C6.k b4.Af t1 k0 k1
 let A1:=CE.kr rK b4.a k0 k1
 ci (t36=6) (A1.bind fun y3=>
 (CE.kr rK b4.b y3.2.1 y3.2.2.1).bind fun y4=>
 (CE.kr rK b4.c y4.2.1 y4.2.2.1).bind fun y5=>
 (Hc.k y3.1.1 y4.1.1 y5.1.1 t1 y5.2.1 y5.2.2.1).bind Bp)<|
 ci (t36=7) (A1.bind fun y4=>
 (CE.kr rK b4.b y4.2.1 y4.2.2.1).bind fun y5=>
 ci (!(CK.e y5.2.1=0)) ((Au.k 8 t1 y5.2.1 y5.2.2.1).bind Bp)<|
 (DW.k y4.1.1.CM y5.2.1 y5.2.2.1).bind fun y7=>
 ci (!(y7.1.1=4)) ((Au.k 8 t1 y7.2.1 y7.2.2.1).bind Bp)<|
 (FL.k y5.1.1.CM y7.2.1 y7.2.2.1).bind fun y9=>
 ci (!y9.1.1) ((Au.k 8 t1 y9.2.1 y9.2.2.1).bind Bp)<|
 (Bo.k ([43]:List UInt8) y4.1.1 y5.1.1 t1 y9.2.1 y9.2.2.1).bind fun y11=>
 (Iz.k y11.1.1 t1 y11.2.1 y11.2.2.1).bind Bp)<|
 ci (t36=8) ((HD.kr rK b4 t1 k0 k1).bind Bp)<|
 ci (t36=9) ((GM.kr rK b4 t1 k0 k1).bind Bp)<|
 ci (t36=10) (A2.bind fun y7=>
 (CE.kr rK b4.a y7.2.1 y7.2.2.1).bind fun y8=>
 (BR.k y8.1.1 y7.1.1 t1 true y8.2.1 y8.2.2.1).bind fun y9=>
 Ah (Dop.Ao.mk y9.1.1 y7.1.1 0 0 false) y9.2.1 y9.2.2.1)<|
 ci (t36=11) (A2.bind fun y8=>
 (BZ.k y8.1.1 y8.2.2.1).bind fun y9=>
 ci (!y9.1.2.1) ((Au.k 8 t1 y8.2.1 y9.2.1).bind Bp)<|
 (ED.k y9.1.1 y8.2.1 y9.2.1).bind fun y11=>
 Ah (Dop.Ao.mk y11.1.1 2 0 0 false) y11.2.1 y11.2.2.1)<|
 ci (t36=14) ((BU.k 13 ((-1)) ((-1)) ((-1)) 0 [] k0 k1).bind fun y9=>
 Ah (Dop.Ao.mk y9.1.1 1 0 0 false) y9.2.1 y9.2.2.1)<|
 A1.bind fun y9=>
 (BU.k 14 y9.1.1.n ((-1)) ((-1)) 0 [] y9.2.1 y9.2.2.1).bind fun y10=>
 Ah (Dop.Ao.mk y10.1.1 1 0 0 false) y10.2.1 y10.2.2.1
def A9.kS (rK:Bi.T) (tK:A9.KT):A9.KT:=(Ha.kB rK tK,Lk.kB rK tK,Ll.kB rK tK,Lm.kB rK tK,())
def A9.kL (rK:Bi.T) (n:Nat):A9.KT:=Cw (A9.kS rK) n
def A9.k0 (rK:Bi.T) (tK:A9.KT) (t1:Int) (k0:CK) (k1:CT):R2 Dop.Ao CK CT:=
 let A1:=Dop.Ao.mk 0 0 0 0 false
 ci (!(k0.e=0)) (Ah (Dop.Ao.mk (-1) 1 0 0 false) k0 k1)<|
 (Np.k t1 k0 k1).bind fun y3=>
 let z1:R2 Dop.Ao CK CT:=
 ci (y3.1.1.text=(124:UInt8)::(124:UInt8)::[]) (tK.2.1 11 y3.2.1 y3.2.2.1 A1 y3.1.1)<|
 tK.2.1 10 y3.2.1 y3.2.2.1 A1 y3.1.1
 ci (y3.1.1.kind=1) (ci (2147483648<=y3.1.1.n) (tK.1 2 y3.2.1 y3.2.2.1 A1 y3.1.1)<|
 tK.1 1 y3.2.1 y3.2.2.1 A1 y3.1.1)<|
 ci (y3.1.1.kind=2) (ck ((CK.names y3.2.1).length<9223372036854775807)<|
 ci (!(CW y3.1.1.text (CK.names y3.2.1)).isSome) ((Au.k 7 t1 y3.2.1 y3.2.2.1).bind Bp)<|
 ci (((CW y3.1.1.text (CK.names y3.2.1)).getD Dop.d9).kind=2) ((FY.k (((CW y3.1.1.text (CK.names y3.2.1)).getD Dop.d9).n) y3.2.1 y3.2.2.1).bind fun y8=>
 Ah (Dop.Ao.mk y8.1.1 ((CW y3.1.1.text (CK.names y3.2.1)).getD Dop.d9).CM 1 ((CW y3.1.1.text (CK.names y3.2.1)).getD Dop.d9).n false) y8.2.1 y8.2.2.1)<|
 (FM.k ((CW y3.1.1.text (CK.names y3.2.1)).getD Dop.d9) y3.2.1 y3.2.2.1).bind fun y8=>
 (Iy.k y8.1.1 (((CW y3.1.1.text (CK.names y3.2.1)).getD Dop.d9).CM) y8.2.1 y8.2.2.1).bind Bp)<|
 ci (y3.1.1.kind=3) ((IJ.kr rK y3.1.1 t1 y3.2.1 y3.2.2.1).bind Bp)<|
 ci (y3.1.1.kind=4) (ci (y3.1.1.text=(38:UInt8)::(38:UInt8)::[]) (z1)<|
 ci (y3.1.1.text=(124:UInt8)::(124:UInt8)::[]) (z1)<|
 (CE.kr rK y3.1.1.a y3.2.1 y3.2.2.1).bind fun y10=>
 (CE.kr rK y3.1.1.b y10.2.1 y10.2.2.1).bind fun y11=>
 (Bo.k y3.1.1.text y10.1.1 y11.1.1 t1 y11.2.1 y11.2.2.1).bind Bp)<|
 ci (y3.1.1.kind=5) ((A9.kr rK y3.1.1.a y3.2.1 y3.2.2.1).bind fun y9=>
 ci (CK.e y9.2.1=0) (ci (y9.1.1.left=0) ((Au.k 8 t1 y9.2.1 y9.2.2.1).bind Bp)<|
 (DX.k y9.1.1.CM y9.2.2.1).bind fun y12=>
 ci (!y12.1.1) ((Au.k 8 t1 y9.2.1 y12.2.1).bind Bp)<|
 ci (y3.1.1.text=(61:UInt8)::[]) ((CE.kr rK y3.1.1.b y9.2.1 y12.2.1).bind fun y15=>
 (BR.k y15.1.1 y9.1.1.CM t1 false y15.2.1 y15.2.2.1).bind fun y16=>
 (EP.k y9.1.1 y16.1.1 y16.2.1 y16.2.2.1).bind fun y17=>
 Ah (Dop.Ao.mk y17.1.1 y9.1.1.CM 0 0 false) y17.2.1 y17.2.2.1)<|
 ck (VN y3.1.1.text)<|
 (BA.kr rK y9.1.1 (Lib.trimSuffix y3.1.1.text ([61]:List UInt8)) t1 false y9.2.1 y12.2.1 y3.1.1).bind Bp)<|
 ci (y3.1.1.text=(61:UInt8)::[]) ((CE.kr rK y3.1.1.b y9.2.1 y9.2.2.1).bind fun y12=>
 (BR.k y12.1.1 y9.1.1.CM t1 false y12.2.1 y12.2.2.1).bind fun y13=>
 (EP.k y9.1.1 y13.1.1 y13.2.1 y13.2.2.1).bind fun y14=>
 Ah (Dop.Ao.mk y14.1.1 y9.1.1.CM 0 0 false) y14.2.1 y14.2.2.1)<|
 ck (VN y3.1.1.text)<|
 (BA.kr rK y9.1.1 (Lib.trimSuffix y3.1.1.text ([61]:List UInt8)) t1 false y9.2.1 y9.2.2.1 y3.1.1).bind Bp)<|
 ci (y3.1.1.kind=12) (ci (y3.1.1.kind=12) (tK.2.2.1 t1 y3.2.1 y3.2.2.1 A1 y3.1.1)<|
 tK.2.2.2.1 t1 y3.1.1.kind y3.2.1 y3.2.2.1 A1 y3.1.1)<|
 ci (y3.1.1.kind=13) (tK.2.2.1 t1 y3.2.1 y3.2.2.1 A1 y3.1.1)<|
 tK.2.2.2.1 t1 y3.1.1.kind y3.2.1 y3.2.2.1 A1 y3.1.1
def A9.kf (rK:Bi.T) (t1:Int) (k0:CK) (k1:CT):R2 Dop.Ao CK CT:=A9.k0 rK (A9.kL rK 1000000) t1 k0 k1
def IJ.kf (rK:Bi.T) (t1:Dop.AU) (t2:Int) (k0:CK) (k1:CT):R2 Dop.Ao CK CT:=
 let A1:=CE.kr rK t1.a k0 k1
 ci (t1.text=(42:UInt8)::[]) (A1.bind fun y3=>
 (Iz.k y3.1.1 t2 y3.2.1 y3.2.2.1).bind Bp)<|
 ci (t1.text=(38:UInt8)::[]) ((Np.k t1.a k0 k1).bind fun y4=>
 ci (y4.1.1.kind=2) (ck ((CK.names y4.2.1).length<9223372036854775807)<|
 ci (!(CW y4.1.1.text (CK.names y4.2.1)).isSome) ((Au.k 7 t1.a y4.2.1 y4.2.2.1).bind Bp)<|
 (FM.k ((CW y4.1.1.text (CK.names y4.2.1)).getD Dop.d9) y4.2.1 y4.2.2.1).bind fun y7=>
 (I0.k (((CW y4.1.1.text (CK.names y4.2.1)).getD Dop.d9).CM) y7.2.1 y7.2.2.1).bind fun y8=>
 Ah (Dop.Ao.mk y7.1.1 y8.1.1 0 0 false) y8.2.1 y8.2.2.1)<|
 (A9.kr rK t1.a y4.2.1 y4.2.2.1).bind fun y6=>
 ci (CK.e y6.2.1=0) (ci (!(y6.1.1.left=2)) ((Au.k 8 t2 y6.2.1 y6.2.2.1).bind Bp)<|
 (I0.k y6.1.1.CM y6.2.1 y6.2.2.1).bind fun y9=>
 Ah (Dop.Ao.mk y6.1.1.at_ y9.1.1 0 0 false) y9.2.1 y9.2.2.1)<|
 (I0.k y6.1.1.CM y6.2.1 y6.2.2.1).bind fun y8=>
 Ah (Dop.Ao.mk y6.1.1.at_ y8.1.1 0 0 false) y8.2.1 y8.2.2.1)<|
 ci (t1.text=(33:UInt8)::[]) (A1.bind fun y5=>
 (Hd.k 23 y5.1.1.n y5.2.1 y5.2.2.1).bind fun y6=>
 Ah (Dop.Ao.mk y6.1.1 1 0 0 false) y6.2.1 y6.2.2.1)<|
 A1.bind fun y5=>
 ci (CK.e y5.2.1=0) ((FL.k y5.1.1.CM y5.2.1 y5.2.2.1).bind fun y7=>
 ci (!y7.1.1) ((Au.k 8 t2 y7.2.1 y7.2.2.1).bind Bp)<|
 ci (t1.text=(126:UInt8)::[]) ((Hd.k 21 y5.1.1.n y7.2.1 y7.2.2.1).bind fun y10=>
 (Gq.k y5.1.1.CM y5.1.1.CM y10.2.1 y10.2.2.1).bind fun y11=>
 Ah (Dop.Ao.mk y10.1.1 y11.1.1 0 0 false) y11.2.1 y11.2.2.1)<|
 (Hd.k 20 y5.1.1.n y7.2.1 y7.2.2.1).bind fun y10=>
 (Gq.k y5.1.1.CM y5.1.1.CM y10.2.1 y10.2.2.1).bind fun y11=>
 Ah (Dop.Ao.mk y10.1.1 y11.1.1 0 0 false) y11.2.1 y11.2.2.1)<|
 ci (t1.text=(126:UInt8)::[]) ((Hd.k 21 y5.1.1.n y5.2.1 y5.2.2.1).bind fun y8=>
 (Gq.k y5.1.1.CM y5.1.1.CM y8.2.1 y8.2.2.1).bind fun y9=>
 Ah (Dop.Ao.mk y8.1.1 y9.1.1 0 0 false) y9.2.1 y9.2.2.1)<|
 (Hd.k 20 y5.1.1.n y5.2.1 y5.2.2.1).bind fun y8=>
 (Gq.k y5.1.1.CM y5.1.1.CM y8.2.1 y8.2.2.1).bind fun y9=>
 Ah (Dop.Ao.mk y8.1.1 y9.1.1 0 0 false) y9.2.1 y9.2.2.1
def CE.kf (rK:Bi.T) (n:Int) (k0:CK) (k1:CT):R2 Dop.Ao CK CT:=
 (A9.kr rK n k0 k1).bind fun y2=>
 ci (CK.e y2.2.1=0) ((DX.k y2.1.1.CM y2.2.2.1).bind fun y4=>
 ci (!y4.1.1) ((Au.k 8 n y2.2.1 y4.2.1).bind Bp)<|
 Ah y2.1.1 y2.2.1 y4.2.1)<|
 Ah y2.1.1 y2.2.1 y2.2.2.1
def BA.kf (rK:Bi.T) (t1:Dop.Ao) (t2:List UInt8) (t4:Int) (t5:Bool) (k0:CK) (k1:CT) (b3:Dop.AU):Option ((Dop.Ao×Unit)×(CK×CT×(Unit×Unit)×(Dop.AU×Unit)×Unit)):=(Ac (S:=Dop.D4) prog 220 tb (Bi.ct rK++[DX.Kc,Au.Kc,KO.Kc,FY.Kc,Bo.Kc,FL.Kc,BR.Kc,EP.Kc,KP.Kc,Iv.Kc,He.Kc]) BA.p).Ez 3000 1000000 BA.p.sp (((),t1,t2,(),t4,t5,()),(k0,k1,((),()),(b3,()),()))
def Jh.kf (rK:Bi.T) (k1:CK) (k2:CT) (b3:Dop.AU):Option ((Dop.Ao×Unit)×((Unit×Unit)×CK×CT×(Dop.AU×Unit)×Unit)):=
 (CE.kr rK b3.b k1 k2).bind fun y2=>
 some ((y2.1.1,()),(((),()),(y2.2.1,(y2.2.2.1,((b3,()),())))))
def HD.kf (rK:Bi.T) (t1:Dop.AU) (t2:Int) (k0:CK) (k1:CT):R2 Dop.Ao CK CT:=(Ac (S:=Dop.D4) prog 226 tb (Bi.ct rK++[Iz.Kc,DW.Kc,Au.Kc,Hf.Kc,ED.Kc,Cj.Kc,Iy.Kc]) HD.p).Ez 3000 1000000 HD.p.sp (((),t1,t2,()),(k0,k1,()))
def GM.kf (rK:Bi.T) (t1:Dop.AU) (t2:Int) (k0:CK) (k1:CT):R2 Dop.Ao CK CT:=(Ac (S:=Dop.D4) prog 227 tb (Bi.ct rK++[Au.Kc,GX.Kc,BR.Kc,Aa.Kc,BU.Kc]) GM.p).Ez 3000 1000000 GM.p.sp (((),t1,t2,()),(k0,k1,()))
def Bi.kS (r:Bi.T):Bi.T:=(fun x=>A9.kf r x.1.2.1 x.2.1 x.2.2.1,fun x=>IJ.kf r x.1.2.1 x.1.2.2.1 x.2.1 x.2.2.1,fun x=>CE.kf r x.1.2.1 x.2.1 x.2.2.1,fun x=>BA.kf r x.1.2.1 x.1.2.2.1 x.1.2.2.2.2.1 x.1.2.2.2.2.2.1 x.2.1 x.2.2.1 x.2.2.2.2.1.1,fun x=>Jh.kf r x.2.2.1 x.2.2.2.1 x.2.2.2.2.1.1,fun x=>HD.kf r x.1.2.1 x.1.2.2.1 x.2.1 x.2.2.1,fun x=>GM.kf r x.1.2.1 x.1.2.2.1 x.2.1 x.2.2.1,())
def Bi.kR (n:Nat):Bi.T:=Cw Bi.kS n
def A9.Kc (n:Nat):=kd 194 A9.p (Bi.kR n).1
def A9.Nn:=A9.Kc FU
def A9.k:=A9.kr (Bi.kR FU)
def IJ.Kc (n:Nat):=kd 218 IJ.p (Bi.kR n).2.1
def CE.Kc (n:Nat):=kd 167 CE.p (Bi.kR n).2.2.1
def CE.Nn:=CE.Kc FU
def CE.k:=CE.kr (Bi.kR FU)
def BA.Kc (n:Nat):=kd 220 BA.p (Bi.kR n).2.2.2.1
def Jh.Kc (n:Nat):=kd 222 Jh.p (Bi.kR n).2.2.2.2.1
def HD.Kc (n:Nat):=kd 226 HD.p (Bi.kR n).2.2.2.2.2.1
def GM.Kc (n:Nat):=kd 227 GM.p (Bi.kR n).2.2.2.2.2.2.1
def Bi.Ry (n:Nat):List (Bw Dop.D4):=[A9.Kc n,IJ.Kc n,CE.Kc n,BA.Kc n,Jh.Kc n,HD.Kc n,GM.Kc n]
theorem Bi.Et: ∀ n,(A9.Kc n).Holds prog/\(IJ.Kc n).Holds prog/\(CE.Kc n).Holds prog/\(BA.Kc n).Holds prog/\(Jh.Kc n).Holds prog/\(HD.Kc n).Holds prog/\(GM.Kc n).Holds prog/\True
 | 0=>⟨AO AH A9.ok,AO AH IJ.ok,AO AH CE.ok,AO AH BA.ok,AO AH Jh.ok,AO AH HD.ok,AO AH GM.ok,trivial⟩
 | n+1=>by
  obtain ⟨h0,h1,h2,h3,h4,h5,h6,_⟩:=Bi.Et n
  have hh: ∀ c∈Bi.Ry n,c.Holds prog:=(hc h0 (hc h1 (hc h2 (hc h3 (hc h4 (hc h5 (hc h6 hn)))))))
  exact ⟨F4 AH (Ab hh (hc Np.Kh (hc ED.Kh (hc Dq.holds (hc Au.Kh (hc FY.Kh (hc FM.Kh (hc Iy.Kh (hc BU.Kh (hc Bo.Kh (hc DX.Kh (hc BR.Kh (hc EP.Kh (hc trimSuffix.holds (hc BX.Kh (hc Hc.Kh (hc DW.Kh (hc FL.Kh (hc Iz.Kh (hc C6.Kh (hc BZ.IN hn))))))))))))))))))))) A9.ok (fun t x=>A9.k0 (Bi.kR n) t x.1.2.1 x.2.1 x.2.2.1) (fun c=>(fun t6 k0 k1 b3 b4=>c 9 A9.q9 rfl (((),(),(),t6,()),(k0,k1,((),()),(b3,()),(b4,()),())),fun t9 k0 k1 b3 b4=>c 24 A9.YU rfl (((),(),(),t9,()),(k0,k1,((),()),(b3,()),(b4,()),())),fun t1 k0 k1 b3 b4=>c 40 A9.mQ rfl ((t1,(),(),(),()),(k0,k1,((),()),(b3,()),(b4,()),())),fun t1 t36 k0 k1 b3 b4=>c 41 A9.mR rfl ((t1,(),(),(),t36,()),(k0,k1,((),()),(b3,()),(b4,()),())),())) (A9.kS (Bi.kR n)) (by kernel_rfl),
   kh AH (Ab hh (hc Iz.Kh (hc Np.Kh (hc Dq.holds (hc Au.Kh (hc FM.Kh (hc I0.Kh (hc Hd.Kh (hc FL.Kh (hc Gq.Kh hn)))))))))) IJ.ok (by kernel_rfl),
   kh AH (Ab hh (hc DX.Kh (hc Au.Kh hn))) CE.ok (by kernel_rfl),
   kh AH (Ab hh (hc DX.Kh (hc Au.Kh (hc KO.Kh (hc FY.Kh (hc Bo.Kh (hc FL.Kh (hc BR.Kh (hc EP.Kh (hc KP.Kh (hc Iv.Kh (hc He.Kh hn)))))))))))) BA.ok (by kernel_rfl),
   kh AH (Ab hh hn) Jh.ok (by kernel_rfl),
   kh AH (Ab hh (hc Iz.Kh (hc DW.Kh (hc Au.Kh (hc Hf.Kh (hc ED.Kh (hc Cj.Kh (hc Iy.Kh hn)))))))) HD.ok (by kernel_rfl),
   kh AH (Ab hh (hc Au.Kh (hc GX.Kh (hc BR.Kh (hc Aa.Kh (hc BU.Kh hn)))))) GM.ok (by kernel_rfl),
   trivial⟩
theorem A9.IN:A9.Nn.Holds prog:=(Bi.Et FU).1
theorem CE.IN:CE.Nn.Holds prog:=(Bi.Et FU).2.2.1
def Ms.k (s:List Dop.QJ):Ei (List Dop.QJ):=
 ck (X9 s)<|
 ck (Cu none (room 24 (([]:List Dop.QJ).length+s.length)))<|
 CO ([]++s)
def Ms.Kc:=kd 162 Ms.p fun x=>Ms.k x.1.1
theorem Ms.Kh:Ms.Kc.Holds prog:=kh AH hn Ms.ok (by kernel_rfl)
abbrev PV.T:Type:=List UInt8->List Dop.QJ->Bool->(List (List UInt8×Int))->List Dop.QJ->Int->Int->CT->R1 Int CT
abbrev LS.T:Type:=List UInt8->List Dop.QJ->Int->List Dop.QJ->Int->Int->CT->R1 Int CT
abbrev DV.KT:Type:=PV.T×LS.T×Unit
def PV.kB (tK:DV.KT):PV.T:=fun t1 t2 t10 t11 t38 t39 t40 k0=>
 let A1:=List.getD t38 t40.toNat Dop.d16
 let A2:=Cb t11 A1.name ((AN t11 A1.name).getD (0:Int)+1)
 let z1:R1 Int CT:=
 ck (Az (t40+1))<|
 tK.1 t1 t2 true A2 t38 t39 (t40+1) k0
 ci (t40<t39) (ck (0<=t40/\t40<I t38.length)<|
 ck (Az ((AN t11 A1.name).getD (0:Int)+1))<|
 ci t10 (z1)<|
 ci (A1.name=[]) (z1)<|
 ck (Az (t40+1))<|
 tK.1 t1 t2 (decide (1<(AN A2 A1.name).getD 0)) A2 t38 t39 (t40+1) k0)<|
 ci t10 (CR 7 k0)<|
 tK.2.1 t1 t2 0 t2 (I t2.length) 0 k0
def LS.kB (tK:DV.KT):LS.T:=fun t1 t2 t14 t64 t65 t66 k0=>
 ci (t66<t65) (ck (0<=t66/\t66<I t64.length)<|
 (BZ.k ((List.getD t64 t66.toNat Dop.d16).Af) k0).bind fun y3=>
 ci (!y3.1.2.1) (CR 8 y3.2.1)<|
 ck (Az (t14+y3.1.1))<|
 ck (Az (t66+1))<|
 tK.2.1 t1 t2 (t14+y3.1.1) t64 t65 (t66+1) y3.2.1)<|
 ci (I t2.length=0) (CR 8 k0)<|
 ci (4096<t14) (CR 4 k0)<|
 (Ms.k t2).bind fun y5=>
 CR 0 (CT.Yk k0 (Cb k0.fields t1 y5.1.1))
def DV.kS (tK:DV.KT):DV.KT:=(PV.kB tK,LS.kB tK,())
def DV.kL (n:Nat):DV.KT:=Cw DV.kS n
def DV.k0 (tK:DV.KT) (t1:List UInt8) (t2:List Dop.QJ) (k0:CT):R1 Int CT:=
 (Iu.k t1 k0).bind fun y2=>
 ci (!(y2.1.2.1=0)) (CR y2.1.2.1 y2.2.1)<|
 tK.1 t1 t2 ((AN (CT.fields y2.2.1) t1).isSome) (([]:List (List UInt8×Int))) t2 (I t2.length) 0 y2.2.1
def DV.k (t1:List UInt8) (t2:List Dop.QJ) (k0:CT):R1 Int CT:=DV.k0 (DV.kL 1000000) t1 t2 k0
def DV.Kc:=kd 122 DV.p fun x=>DV.k x.1.2.1 x.1.2.2.1 x.2.1
theorem DV.Kh:DV.Kc.Holds prog:=F4 AH (hc Iu.Kh (hc BZ.IN (hc Ms.Kh hn))) DV.ok (fun t x=>DV.k0 t x.1.2.1 x.1.2.2.1 x.2.1) (fun c=>(fun t1 t2 t10 t11 t38 t39 t40 k0=>c 7 DV.q7 rfl (((),t1,t2,t10,t11,t38,t39,t40,()),(k0,())),fun t1 t2 t14 t64 t65 t66 k0=>c 16 DV.bg rfl (((),t1,t2,t14,t64,t65,t66,()),(k0,())),())) DV.kS (by kernel_rfl)
end
end Go.Proofs.Tryz
