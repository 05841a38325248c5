/-
 Functions in plain words (what their equations say), and their contracts. Written by a program.
-/
import Derived.Test.YtkpggdcpaeanaaaGreatDoorTwQ
import Derived.Test.YtkpggdcpaeanaaaGreatDoorMo
set_option linter.all false
set_option maxRecDepth 100000
set_option maxHeartbeats 4000000
namespace Go.Proofs.Tryz
open Go Go.En
noncomputable section
def Cr.k (n:Int) (b0_0:Dop.G3) (b0_2:List Int) (b0_3:List Dop.EY) (b0_4:List Dop.NY) (b0_5:Int) (b0_6:List Dop.AU) (b0_7:List (List (List UInt8×Dop.DP))) (b0_8:List (List UInt8×Dop.Pw)) (b0_10:Dop.EY) (b0_11 b0_14:Int) (b0_15:List (List (Int×Int))) (b0_16 b0_17 b0_18:Int) (k1:CT):R2 Dop.AU (List Dop.AU×List Dop.G4×Int×Unit×List Int×List Dop.EY×List Dop.NY×Int×List Dop.AU×List (List (List UInt8×Dop.DP))×List (List UInt8×Dop.Pw)×Unit×List UInt8×Int×Int×Int×Int×Int×Unit×Unit×Int×List (List (Int×Int))×Int×Int×Int×Unit) CT:=
 let A1:=Dop.AU.mk 0 (-1) (-1) (-1) (-1) [] 0 0 0
 ci (n<0) (Ao A1 (b0_0.nodes,(b0_0.types,(b0_0.top,((),(b0_2,(b0_3,(b0_4,(b0_5,(b0_6,(b0_7,(b0_8,((),(b0_10.name,(b0_10.params,(b0_10.Aw,(b0_10.frame,(b0_10.body,(b0_11,((),((),(b0_14,(b0_15,(b0_16,(b0_17,(b0_18,()))))))))))))))))))))))))) k1)<|
 ci (I b0_0.nodes.length<=n) (Ao A1 (b0_0.nodes,(b0_0.types,(b0_0.top,((),(b0_2,(b0_3,(b0_4,(b0_5,(b0_6,(b0_7,(b0_8,((),(b0_10.name,(b0_10.params,(b0_10.Aw,(b0_10.frame,(b0_10.body,(b0_11,((),((),(b0_14,(b0_15,(b0_16,(b0_17,(b0_18,()))))))))))))))))))))))))) k1)<|
 ck (0<=n/\n<I b0_0.nodes.length)<|
 Ao (List.getD b0_0.nodes n.toNat Dop.d5) (b0_0.nodes,(b0_0.types,(b0_0.top,((),(b0_2,(b0_3,(b0_4,(b0_5,(b0_6,(b0_7,(b0_8,((),(b0_10.name,(b0_10.params,(b0_10.Aw,(b0_10.frame,(b0_10.body,(b0_11,((),((),(b0_14,(b0_15,(b0_16,(b0_17,(b0_18,()))))))))))))))))))))))))) k1
def Cr.Kc:=kd 74 Cr.p fun x=>Cr.k x.1.2.1 x.2.1.1 x.2.1.2.2.1 x.2.1.2.2.2.1 x.2.1.2.2.2.2.1 x.2.1.2.2.2.2.2.1 x.2.1.2.2.2.2.2.2.1 x.2.1.2.2.2.2.2.2.2.1 x.2.1.2.2.2.2.2.2.2.2.1 x.2.1.2.2.2.2.2.2.2.2.2.2.1 x.2.1.2.2.2.2.2.2.2.2.2.2.2.1 x.2.1.2.2.2.2.2.2.2.2.2.2.2.2.2.2.1 x.2.1.2.2.2.2.2.2.2.2.2.2.2.2.2.2.2.1 x.2.1.2.2.2.2.2.2.2.2.2.2.2.2.2.2.2.2.1 x.2.1.2.2.2.2.2.2.2.2.2.2.2.2.2.2.2.2.2.1 x.2.1.2.2.2.2.2.2.2.2.2.2.2.2.2.2.2.2.2.2.1 x.2.2.1
theorem Cr.Kh:Cr.Kc.Holds prog:=kh AH hn Cr.ok (by kernel_rfl)
def Mn.k (n:Int) (b0_0:Dop.G3) (b0_2:List Int) (b0_3:List Dop.EY) (b0_4:List Dop.NY) (b0_5:Int) (b0_6:List Dop.AU) (b0_8:List (List UInt8×Dop.Pw)) (b0_9:List (List UInt8×Int)) (b0_10:Dop.EY) (b0_11:Int) (b0_12 b0_13:List (List UInt8×Int)) (b0_14:Int) (b0_15:List (List (Int×Int))) (b0_16 b0_17 b0_18:Int) (k1:CT) (b2:List (List (List UInt8×Dop.DP))):ia Dop.AU (List Dop.AU×List Dop.G4×Int×Unit×List Int×List Dop.EY×List Dop.NY×Int×List Dop.AU×Unit×List (List UInt8×Dop.Pw)×List (List UInt8×Int)×List UInt8×Int×Int×Int×Int×Int×List (List UInt8×Int)×List (List UInt8×Int)×Int×List (List (Int×Int))×Int×Int×Int×Unit) CT (List (List (List UInt8×Dop.DP))×Unit):=
 let A1:=Dop.AU.mk 0 (-1) (-1) (-1) (-1) [] 0 0 0
 ci (n<0) (iy A1 (b0_0.nodes,(b0_0.types,(b0_0.top,((),(b0_2,(b0_3,(b0_4,(b0_5,(b0_6,((),(b0_8,(b0_9,(b0_10.name,(b0_10.params,(b0_10.Aw,(b0_10.frame,(b0_10.body,(b0_11,(b0_12,(b0_13,(b0_14,(b0_15,(b0_16,(b0_17,(b0_18,()))))))))))))))))))))))))) k1 (b2,()))<|
 ci (I b0_0.nodes.length<=n) (iy A1 (b0_0.nodes,(b0_0.types,(b0_0.top,((),(b0_2,(b0_3,(b0_4,(b0_5,(b0_6,((),(b0_8,(b0_9,(b0_10.name,(b0_10.params,(b0_10.Aw,(b0_10.frame,(b0_10.body,(b0_11,(b0_12,(b0_13,(b0_14,(b0_15,(b0_16,(b0_17,(b0_18,()))))))))))))))))))))))))) k1 (b2,()))<|
 ck (0<=n/\n<I b0_0.nodes.length)<|
 iy (List.getD b0_0.nodes n.toNat Dop.d5) (b0_0.nodes,(b0_0.types,(b0_0.top,((),(b0_2,(b0_3,(b0_4,(b0_5,(b0_6,((),(b0_8,(b0_9,(b0_10.name,(b0_10.params,(b0_10.Aw,(b0_10.frame,(b0_10.body,(b0_11,(b0_12,(b0_13,(b0_14,(b0_15,(b0_16,(b0_17,(b0_18,()))))))))))))))))))))))))) k1 (b2,())
def Mn.Kc:=kd 74 Mn.p fun x=>Mn.k x.1.2.1 x.2.1.1 x.2.1.2.2.1 x.2.1.2.2.2.1 x.2.1.2.2.2.2.1 x.2.1.2.2.2.2.2.1 x.2.1.2.2.2.2.2.2.1 x.2.1.2.2.2.2.2.2.2.2.1 x.2.1.2.2.2.2.2.2.2.2.2.1 x.2.1.2.2.2.2.2.2.2.2.2.2.1 x.2.1.2.2.2.2.2.2.2.2.2.2.2.1 x.2.1.2.2.2.2.2.2.2.2.2.2.2.2.1 x.2.1.2.2.2.2.2.2.2.2.2.2.2.2.2.1 x.2.1.2.2.2.2.2.2.2.2.2.2.2.2.2.2.1 x.2.1.2.2.2.2.2.2.2.2.2.2.2.2.2.2.2.1 x.2.1.2.2.2.2.2.2.2.2.2.2.2.2.2.2.2.2.1 x.2.1.2.2.2.2.2.2.2.2.2.2.2.2.2.2.2.2.2.1 x.2.1.2.2.2.2.2.2.2.2.2.2.2.2.2.2.2.2.2.2.1 x.2.2.1 x.2.2.2.1.1
theorem Mn.Kh:Mn.Kc.Holds prog:=kh AH hn Mn.ok (by kernel_rfl)
def Mi.k (k1:CK) (k2:CT):ia Dop.CE (Unit×Unit) CK CT:=
 (Eg.k 1 k1 k2).bind fun y2=>
 iy (Dop.CE.mk y2.1.1 1 0 0 false) ((),()) y2.2.1 y2.2.2.1
def Mi.Kc:=kd 223 Mi.p fun x=>Mi.k x.2.2.1 x.2.2.2.1
theorem Mi.Kh:Mi.Kc.Holds prog:=kh AH (hc Eg.Kh hn) Mi.ok (by kernel_rfl)
def BR.KE:Env Dop.D4:=Ae prog 220 tb [Dd.Kc,A4.Kc,KG.Kc,FL.Kc,Mi.Kc,Dg.Kc,E7.Kc,Bl.Kc,Gw.Kc,KH.Kc,Ii.Kc,HR.Kc] BR.p
def BR.k (t1:Dop.CE) (t2:List UInt8) (t4:Int) (t5:Bool) (k0:CK) (k1:CT):ia Dop.CE CK CT (Unit×Unit):=BR.KE.Fm 3000 1000000 BR.p.sp (((),t1,t2,(),t4,t5,()),(k0,k1,((),()),()))
def BR.Kc:=kd 220 BR.p fun x=>BR.k x.1.2.1 x.1.2.2.1 x.1.2.2.2.2.1 x.1.2.2.2.2.2.1 x.2.1 x.2.2.1
theorem BR.Kh:BR.Kc.Holds prog:=kh AH (hc Dd.Kh (hc A4.Kh (hc KG.Kh (hc FL.Kh (hc Mi.Kh (hc Dg.Kh (hc E7.Kh (hc Bl.Kh (hc Gw.Kh (hc KH.Kh (hc Ii.Kh (hc HR.Kh hn)))))))))))) BR.ok (by kernel_rfl)
abbrev A9.kr (r:Bc.T) (t1:Int) (k0:CK) (k1:CT):R2 Dop.CE CK CT:=r.1 (((),t1,()),(k0,k1,()))
abbrev H9.kr (r:Bc.T) (t1:Dop.AU) (t2:Int) (k0:CK) (k1:CT):R2 Dop.CE CK CT:=r.2.1 (((),t1,t2,()),(k0,k1,()))
abbrev B9.kr (r:Bc.T) (n:Int) (k0:CK) (k1:CT):R2 Dop.CE CK CT:=r.2.2.1 (((),n,()),(k0,k1,()))
abbrev A6.kr (r:Bc.T) (t1:Dop.CE) (t2:List UInt8) (t4:Int) (t5:Bool) (k0:CK) (k1:CT) (b3:Dop.AU):Option ((Dop.CE×Unit)×(CK×CT×(Unit×Unit)×(Dop.AU×Unit)×Unit)):=r.2.2.2.1 (((),t1,t2,(),t4,t5,()),(k0,k1,((),()),(b3,()),()))
abbrev Gx.kr (r:Bc.T) (t1:Dop.AU) (t2:Int) (k0:CK) (k1:CT):R2 Dop.CE CK CT:=r.2.2.2.2.2.1 (((),t1,t2,()),(k0,k1,()))
abbrev F4.kr (r:Bc.T) (t1:Dop.AU) (t2:Int) (k0:CK) (k1:CT):R2 Dop.CE CK CT:=r.2.2.2.2.2.2.1 (((),t1,t2,()),(k0,k1,()))
abbrev HN.T:Type:=Int->CK->CT->Dop.CE->Dop.AU->R2 Dop.CE CK CT
abbrev LW.T:Type:=Int->CK->CT->Dop.CE->Dop.AU->R2 Dop.CE CK CT
abbrev LY.T:Type:=Int->CK->CT->Dop.CE->Dop.AU->R2 Dop.CE CK CT
abbrev LZ.T:Type:=Int->Int->CK->CT->Dop.CE->Dop.AU->R2 Dop.CE CK CT
abbrev A9.KT:Type:=HN.T×LW.T×LY.T×LZ.T×Unit
def HN.kB (rK:Bc.T) (tK:A9.KT):HN.T:=fun t6 k0 k1 b3 b4=>
 (Eg.k b4.n k0 k1).bind fun y2=>
 Ao (Dop.CE.mk y2.1.1 t6 0 0 (decide (b4.n=0))) y2.2.1 y2.2.2.1
def LW.kB (rK:Bc.T) (tK:A9.KT):LW.T:=fun t9 k0 k1 b3 b4=>
 (B9.kr rK b4.a k0 k1).bind fun y2=>
 (B9.kr rK b4.b y2.2.1 y2.2.2.1).bind fun y3=>
 (BO.k t9 y2.1.1.n y3.1.1.n ((-1)) 0 [] y3.2.1 y3.2.2.1).bind fun y4=>
 Ao (Dop.CE.mk y4.1.1 1 0 0 false) y4.2.1 y4.2.2.1
def LY.kB (rK:Bc.T) (tK:A9.KT):LY.T:=fun t1 k0 k1 b3 b4=>
 (A9.kr rK b4.a k0 k1).bind fun y2=>
 ck ((0:Int)<=0/\(0:Int)<=1/\1<=I b4.text.length)<|
 (BR.k y2.1.1 (List.drop (Int.toNat 0) (List.take (Int.toNat 1) b4.text)) t1 (decide (b4.kind=13)) y2.2.1 y2.2.2.1).bind CN
def LZ.kB (rK:Bc.T) (tK:A9.KT):LZ.T:=fun t1 t36 k0 k1 b3 b4=>
 let A2:=Cz.k b4.Ad t1 k0 k1
 let A1:=B9.kr rK b4.a k0 k1
 ci (t36=6) (A1.bind fun y3=>
 (B9.kr rK b4.b y3.2.1 y3.2.2.1).bind fun y4=>
 (B9.kr rK b4.c y4.2.1 y4.2.2.1).bind fun y5=>
 (HP.k y3.1.1 y4.1.1 y5.1.1 t1 y5.2.1 y5.2.2.1).bind CN)<|
 ci (t36=7) (A1.bind fun y4=>
 (B9.kr rK b4.b y4.2.1 y4.2.2.1).bind fun y5=>
 ci (!(CK.e y5.2.1=0)) ((A4.k 8 t1 y5.2.1 y5.2.2.1).bind CN)<|
 (DU.k y4.1.1.EM y5.2.1 y5.2.2.1).bind fun y7=>
 ci (!(y7.1.1=4)) ((A4.k 8 t1 y7.2.1 y7.2.2.1).bind CN)<|
 (E7.k y5.1.1.EM y7.2.1 y7.2.2.1).bind fun y9=>
 ci (!y9.1.1) ((A4.k 8 t1 y9.2.1 y9.2.2.1).bind CN)<|
 (Dg.k ([43]:List UInt8) y4.1.1 y5.1.1 t1 y9.2.1 y9.2.2.1).bind fun y11=>
 (IA.k y11.1.1 t1 y11.2.1 y11.2.2.1).bind CN)<|
 ci (t36=8) ((Gx.kr rK b4 t1 k0 k1).bind CN)<|
 ci (t36=9) ((F4.kr rK b4 t1 k0 k1).bind CN)<|
 ci (t36=10) (A2.bind fun y7=>
 (B9.kr rK b4.a y7.2.1 y7.2.2.1).bind fun y8=>
 (Bl.k y8.1.1 y7.1.1 t1 true y8.2.1 y8.2.2.1).bind fun y9=>
 Ao (Dop.CE.mk y9.1.1 y7.1.1 0 0 false) y9.2.1 y9.2.2.1)<|
 ci (t36=11) (A2.bind fun y8=>
 (BU.k y8.1.1 y8.2.2.1).bind fun y9=>
 ci (!y9.1.2.1) ((A4.k 8 t1 y8.2.1 y9.2.1).bind CN)<|
 (Eg.k y9.1.1 y8.2.1 y9.2.1).bind fun y11=>
 Ao (Dop.CE.mk y11.1.1 2 0 0 false) y11.2.1 y11.2.2.1)<|
 ci (t36=14) ((BO.k 13 ((-1)) ((-1)) ((-1)) 0 [] k0 k1).bind fun y9=>
 Ao (Dop.CE.mk y9.1.1 1 0 0 false) y9.2.1 y9.2.2.1)<|
 A1.bind fun y9=>
 (BO.k 14 y9.1.1.n ((-1)) ((-1)) 0 [] y9.2.1 y9.2.2.1).bind fun y10=>
 Ao (Dop.CE.mk y10.1.1 1 0 0 false) y10.2.1 y10.2.2.1
def A9.kS (rK:Bc.T) (tK:A9.KT):A9.KT:=(HN.kB rK tK,LW.kB rK tK,LY.kB rK tK,LZ.kB rK tK,())
def A9.kL (rK:Bc.T) (n:Nat):A9.KT:=DA (A9.kS rK) n
def A9.k0 (rK:Bc.T) (tK:A9.KT) (t1:Int) (k0:CK) (k1:CT):R2 Dop.CE CK CT:=
 let A1:=Dop.CE.mk 0 0 0 0 false
 ci (!(k0.e=0)) (Ao (Dop.CE.mk (-1) 1 0 0 false) k0 k1)<|
 (NZ.k t1 k0 k1).bind fun y3=>
 let z1:R2 Dop.CE CK CT:=
 ci (y3.1.1.text=(124:UInt8)::(124:UInt8)::[]) (tK.2.1 11 y3.2.1 y3.2.2.1 A1 y3.1.1)<|
 tK.2.1 10 y3.2.1 y3.2.2.1 A1 y3.1.1
 ci (y3.1.1.kind=1) (ci (2147483648<=y3.1.1.n) (tK.1 2 y3.2.1 y3.2.2.1 A1 y3.1.1)<|
 tK.1 1 y3.2.1 y3.2.2.1 A1 y3.1.1)<|
 ci (y3.1.1.kind=2) (ck ((CK.names y3.2.1).length<9223372036854775807)<|
 ci (!(CQ y3.1.1.text (CK.names y3.2.1)).isSome) ((A4.k 7 t1 y3.2.1 y3.2.2.1).bind CN)<|
 ci (((CQ y3.1.1.text (CK.names y3.2.1)).getD Dop.d9).kind=2) ((FL.k (((CQ y3.1.1.text (CK.names y3.2.1)).getD Dop.d9).n) y3.2.1 y3.2.2.1).bind fun y8=>
 Ao (Dop.CE.mk y8.1.1 ((CQ y3.1.1.text (CK.names y3.2.1)).getD Dop.d9).EM 1 ((CQ y3.1.1.text (CK.names y3.2.1)).getD Dop.d9).n false) y8.2.1 y8.2.2.1)<|
 (GY.k ((CQ y3.1.1.text (CK.names y3.2.1)).getD Dop.d9) y3.2.1 y3.2.2.1).bind fun y8=>
 (Il.k y8.1.1 (((CQ y3.1.1.text (CK.names y3.2.1)).getD Dop.d9).EM) y8.2.1 y8.2.2.1).bind CN)<|
 ci (y3.1.1.kind=3) ((H9.kr rK y3.1.1 t1 y3.2.1 y3.2.2.1).bind CN)<|
 ci (y3.1.1.kind=4) (ci (y3.1.1.text=(38:UInt8)::(38:UInt8)::[]) (z1)<|
 ci (y3.1.1.text=(124:UInt8)::(124:UInt8)::[]) (z1)<|
 (B9.kr rK y3.1.1.a y3.2.1 y3.2.2.1).bind fun y10=>
 (B9.kr rK y3.1.1.b y10.2.1 y10.2.2.1).bind fun y11=>
 (Dg.k y3.1.1.text y10.1.1 y11.1.1 t1 y11.2.1 y11.2.2.1).bind CN)<|
 ci (y3.1.1.kind=5) ((A9.kr rK y3.1.1.a y3.2.1 y3.2.2.1).bind fun y9=>
 ci (CK.e y9.2.1=0) (ci (y9.1.1.left=0) ((A4.k 8 t1 y9.2.1 y9.2.2.1).bind CN)<|
 (Dd.k y9.1.1.EM y9.2.2.1).bind fun y12=>
 ci (!y12.1.1) ((A4.k 8 t1 y9.2.1 y12.2.1).bind CN)<|
 ci (y3.1.1.text=(61:UInt8)::[]) ((B9.kr rK y3.1.1.b y9.2.1 y12.2.1).bind fun y15=>
 (Bl.k y15.1.1 y9.1.1.EM t1 false y15.2.1 y15.2.2.1).bind fun y16=>
 (Gw.k y9.1.1 y16.1.1 y16.2.1 y16.2.2.1).bind fun y17=>
 Ao (Dop.CE.mk y17.1.1 y9.1.1.EM 0 0 false) y17.2.1 y17.2.2.1)<|
 ck (VG y3.1.1.text)<|
 (A6.kr rK y9.1.1 (Lib.trimSuffix y3.1.1.text ([61]:List UInt8)) t1 false y9.2.1 y12.2.1 y3.1.1).bind CN)<|
 ci (y3.1.1.text=(61:UInt8)::[]) ((B9.kr rK y3.1.1.b y9.2.1 y9.2.2.1).bind fun y12=>
 (Bl.k y12.1.1 y9.1.1.EM t1 false y12.2.1 y12.2.2.1).bind fun y13=>
 (Gw.k y9.1.1 y13.1.1 y13.2.1 y13.2.2.1).bind fun y14=>
 Ao (Dop.CE.mk y14.1.1 y9.1.1.EM 0 0 false) y14.2.1 y14.2.2.1)<|
 ck (VG y3.1.1.text)<|
 (A6.kr rK y9.1.1 (Lib.trimSuffix y3.1.1.text ([61]:List UInt8)) t1 false y9.2.1 y9.2.2.1 y3.1.1).bind CN)<|
 ci (y3.1.1.kind=12) (ci (y3.1.1.kind=12) (tK.2.2.1 t1 y3.2.1 y3.2.2.1 A1 y3.1.1)<|
 tK.2.2.2.1 t1 y3.1.1.kind y3.2.1 y3.2.2.1 A1 y3.1.1)<|
 ci (y3.1.1.kind=13) (tK.2.2.1 t1 y3.2.1 y3.2.2.1 A1 y3.1.1)<|
 tK.2.2.2.1 t1 y3.1.1.kind y3.2.1 y3.2.2.1 A1 y3.1.1
def A9.kf (rK:Bc.T) (t1:Int) (k0:CK) (k1:CT):R2 Dop.CE CK CT:=A9.k0 rK (A9.kL rK 1000000) t1 k0 k1
def H9.kf (rK:Bc.T) (t1:Dop.AU) (t2:Int) (k0:CK) (k1:CT):R2 Dop.CE CK CT:=
 let A1:=B9.kr rK t1.a k0 k1
 ci (t1.text=(42:UInt8)::[]) (A1.bind fun y3=>
 (IA.k y3.1.1 t2 y3.2.1 y3.2.2.1).bind CN)<|
 ci (t1.text=(38:UInt8)::[]) ((NZ.k t1.a k0 k1).bind fun y4=>
 ci (y4.1.1.kind=2) (ck ((CK.names y4.2.1).length<9223372036854775807)<|
 ci (!(CQ y4.1.1.text (CK.names y4.2.1)).isSome) ((A4.k 7 t1.a y4.2.1 y4.2.2.1).bind CN)<|
 (GY.k ((CQ y4.1.1.text (CK.names y4.2.1)).getD Dop.d9) y4.2.1 y4.2.2.1).bind fun y7=>
 (Im.k (((CQ y4.1.1.text (CK.names y4.2.1)).getD Dop.d9).EM) y7.2.1 y7.2.2.1).bind fun y8=>
 Ao (Dop.CE.mk y7.1.1 y8.1.1 0 0 false) y8.2.1 y8.2.2.1)<|
 (A9.kr rK t1.a y4.2.1 y4.2.2.1).bind fun y6=>
 ci (CK.e y6.2.1=0) (ci (!(y6.1.1.left=2)) ((A4.k 8 t2 y6.2.1 y6.2.2.1).bind CN)<|
 (Im.k y6.1.1.EM y6.2.1 y6.2.2.1).bind fun y9=>
 Ao (Dop.CE.mk y6.1.1.at_ y9.1.1 0 0 false) y9.2.1 y9.2.2.1)<|
 (Im.k y6.1.1.EM y6.2.1 y6.2.2.1).bind fun y8=>
 Ao (Dop.CE.mk y6.1.1.at_ y8.1.1 0 0 false) y8.2.1 y8.2.2.1)<|
 ci (t1.text=(33:UInt8)::[]) (A1.bind fun y5=>
 (HQ.k 23 y5.1.1.n y5.2.1 y5.2.2.1).bind fun y6=>
 Ao (Dop.CE.mk y6.1.1 1 0 0 false) y6.2.1 y6.2.2.1)<|
 A1.bind fun y5=>
 ci (CK.e y5.2.1=0) ((E7.k y5.1.1.EM y5.2.1 y5.2.2.1).bind fun y7=>
 ci (!y7.1.1) ((A4.k 8 t2 y7.2.1 y7.2.2.1).bind CN)<|
 ci (t1.text=(126:UInt8)::[]) ((HQ.k 21 y5.1.1.n y7.2.1 y7.2.2.1).bind fun y10=>
 (Gy.k y5.1.1.EM y5.1.1.EM y10.2.1 y10.2.2.1).bind fun y11=>
 Ao (Dop.CE.mk y10.1.1 y11.1.1 0 0 false) y11.2.1 y11.2.2.1)<|
 (HQ.k 20 y5.1.1.n y7.2.1 y7.2.2.1).bind fun y10=>
 (Gy.k y5.1.1.EM y5.1.1.EM y10.2.1 y10.2.2.1).bind fun y11=>
 Ao (Dop.CE.mk y10.1.1 y11.1.1 0 0 false) y11.2.1 y11.2.2.1)<|
 ci (t1.text=(126:UInt8)::[]) ((HQ.k 21 y5.1.1.n y5.2.1 y5.2.2.1).bind fun y8=>
 (Gy.k y5.1.1.EM y5.1.1.EM y8.2.1 y8.2.2.1).bind fun y9=>
 Ao (Dop.CE.mk y8.1.1 y9.1.1 0 0 false) y9.2.1 y9.2.2.1)<|
 (HQ.k 20 y5.1.1.n y5.2.1 y5.2.2.1).bind fun y8=>
 (Gy.k y5.1.1.EM y5.1.1.EM y8.2.1 y8.2.2.1).bind fun y9=>
 Ao (Dop.CE.mk y8.1.1 y9.1.1 0 0 false) y9.2.1 y9.2.2.1
def B9.kf (rK:Bc.T) (n:Int) (k0:CK) (k1:CT):R2 Dop.CE CK CT:=
 (A9.kr rK n k0 k1).bind fun y2=>
 ci (CK.e y2.2.1=0) ((Dd.k y2.1.1.EM y2.2.2.1).bind fun y4=>
 ci (!y4.1.1) ((A4.k 8 n y2.2.1 y4.2.1).bind CN)<|
 Ao y2.1.1 y2.2.1 y4.2.1)<|
 Ao y2.1.1 y2.2.1 y2.2.2.1
def A6.kf (rK:Bc.T) (t1:Dop.CE) (t2:List UInt8) (t4:Int) (t5:Bool) (k0:CK) (k1:CT) (b3:Dop.AU):Option ((Dop.CE×Unit)×(CK×CT×(Unit×Unit)×(Dop.AU×Unit)×Unit)):=(Ae (S:=Dop.D4) prog 220 tb (Bc.ct rK++[Dd.Kc,A4.Kc,KG.Kc,FL.Kc,Dg.Kc,E7.Kc,Bl.Kc,Gw.Kc,KH.Kc,Ii.Kc,HR.Kc]) A6.p).Fm 3000 1000000 A6.p.sp (((),t1,t2,(),t4,t5,()),(k0,k1,((),()),(b3,()),()))
def Jc.kf (rK:Bc.T) (k1:CK) (k2:CT) (b3:Dop.AU):Option ((Dop.CE×Unit)×((Unit×Unit)×CK×CT×(Dop.AU×Unit)×Unit)):=
 (B9.kr rK b3.b k1 k2).bind fun y2=>
 some ((y2.1.1,()),(((),()),(y2.2.1,(y2.2.2.1,((b3,()),())))))
def Gx.kf (rK:Bc.T) (t1:Dop.AU) (t2:Int) (k0:CK) (k1:CT):R2 Dop.CE CK CT:=(Ae (S:=Dop.D4) prog 226 tb (Bc.ct rK++[IA.Kc,DU.Kc,A4.Kc,HS.Kc,Eg.Kc,Io.Kc,Il.Kc]) Gx.p).Fm 3000 1000000 Gx.p.sp (((),t1,t2,()),(k0,k1,()))
def F4.kf (rK:Bc.T) (t1:Dop.AU) (t2:Int) (k0:CK) (k1:CT):R2 Dop.CE CK CT:=(Ae (S:=Dop.D4) prog 227 tb (Bc.ct rK++[A4.Kc,GG.Kc,Bl.Kc,Aa.Kc,BO.Kc]) F4.p).Fm 3000 1000000 F4.p.sp (((),t1,t2,()),(k0,k1,()))
def Bc.kS (r:Bc.T):Bc.T:=(fun x=>A9.kf r x.1.2.1 x.2.1 x.2.2.1,fun x=>H9.kf r x.1.2.1 x.1.2.2.1 x.2.1 x.2.2.1,fun x=>B9.kf r x.1.2.1 x.2.1 x.2.2.1,fun x=>A6.kf r x.1.2.1 x.1.2.2.1 x.1.2.2.2.2.1 x.1.2.2.2.2.2.1 x.2.1 x.2.2.1 x.2.2.2.2.1.1,fun x=>Jc.kf r x.2.2.1 x.2.2.2.1 x.2.2.2.2.1.1,fun x=>Gx.kf r x.1.2.1 x.1.2.2.1 x.2.1 x.2.2.1,fun x=>F4.kf r x.1.2.1 x.1.2.2.1 x.2.1 x.2.2.1,())
def Bc.kR (n:Nat):Bc.T:=DA Bc.kS n
def A9.Kc (n:Nat):=kd 194 A9.p (Bc.kR n).1
def A9.Lv:=A9.Kc FU
def A9.k:=A9.kr (Bc.kR FU)
def H9.Kc (n:Nat):=kd 218 H9.p (Bc.kR n).2.1
def B9.Kc (n:Nat):=kd 167 B9.p (Bc.kR n).2.2.1
def B9.Lv:=B9.Kc FU
def B9.k:=B9.kr (Bc.kR FU)
def A6.Kc (n:Nat):=kd 220 A6.p (Bc.kR n).2.2.2.1
def Jc.Kc (n:Nat):=kd 222 Jc.p (Bc.kR n).2.2.2.2.1
def Gx.Kc (n:Nat):=kd 226 Gx.p (Bc.kR n).2.2.2.2.2.1
def F4.Kc (n:Nat):=kd 227 F4.p (Bc.kR n).2.2.2.2.2.2.1
def Bc.RY (n:Nat):List (Bp Dop.D4):=[A9.Kc n,H9.Kc n,B9.Kc n,A6.Kc n,Jc.Kc n,Gx.Kc n,F4.Kc n]
theorem Bc.Ej: ∀ n,(A9.Kc n).Holds prog/\(H9.Kc n).Holds prog/\(B9.Kc n).Holds prog/\(A6.Kc n).Holds prog/\(Jc.Kc n).Holds prog/\(Gx.Kc n).Holds prog/\(F4.Kc n).Holds prog/\True
 | 0=>⟨AN AH A9.ok,AN AH H9.ok,AN AH B9.ok,AN AH A6.ok,AN AH Jc.ok,AN AH Gx.ok,AN AH F4.ok,trivial⟩
 | n+1=>by
  obtain ⟨h0,h1,h2,h3,h4,h5,h6,_⟩:=Bc.Ej n
  have hh: ∀ c∈Bc.RY n,c.Holds prog:=(hc h0 (hc h1 (hc h2 (hc h3 (hc h4 (hc h5 (hc h6 hn)))))))
  exact ⟨GD AH (Ab hh (hc NZ.Kh (hc Eg.Kh (hc Df.holds (hc A4.Kh (hc FL.Kh (hc GY.Kh (hc Il.Kh (hc BO.Kh (hc Dg.Kh (hc Dd.Kh (hc Bl.Kh (hc Gw.Kh (hc trimSuffix.holds (hc BR.Kh (hc HP.Kh (hc DU.Kh (hc E7.Kh (hc IA.Kh (hc Cz.Kh (hc BU.ID hn))))))))))))))))))))) A9.ok (fun t x=>A9.k0 (Bc.kR n) t x.1.2.1 x.2.1 x.2.2.1) (fun c=>(fun t6 k0 k1 b3 b4=>c 9 A9.q9 rfl (((),(),(),t6,()),(k0,k1,((),()),(b3,()),(b4,()),())),fun t9 k0 k1 b3 b4=>c 24 A9.Xq rfl (((),(),(),t9,()),(k0,k1,((),()),(b3,()),(b4,()),())),fun t1 k0 k1 b3 b4=>c 40 A9.kN rfl ((t1,(),(),(),()),(k0,k1,((),()),(b3,()),(b4,()),())),fun t1 t36 k0 k1 b3 b4=>c 41 A9.kO rfl ((t1,(),(),(),t36,()),(k0,k1,((),()),(b3,()),(b4,()),())),())) (A9.kS (Bc.kR n)) (by kernel_rfl),
   kh AH (Ab hh (hc IA.Kh (hc NZ.Kh (hc Df.holds (hc A4.Kh (hc GY.Kh (hc Im.Kh (hc HQ.Kh (hc E7.Kh (hc Gy.Kh hn)))))))))) H9.ok (by kernel_rfl),
   kh AH (Ab hh (hc Dd.Kh (hc A4.Kh hn))) B9.ok (by kernel_rfl),
   kh AH (Ab hh (hc Dd.Kh (hc A4.Kh (hc KG.Kh (hc FL.Kh (hc Dg.Kh (hc E7.Kh (hc Bl.Kh (hc Gw.Kh (hc KH.Kh (hc Ii.Kh (hc HR.Kh hn)))))))))))) A6.ok (by kernel_rfl),
   kh AH (Ab hh hn) Jc.ok (by kernel_rfl),
   kh AH (Ab hh (hc IA.Kh (hc DU.Kh (hc A4.Kh (hc HS.Kh (hc Eg.Kh (hc Io.Kh (hc Il.Kh hn)))))))) Gx.ok (by kernel_rfl),
   kh AH (Ab hh (hc A4.Kh (hc GG.Kh (hc Bl.Kh (hc Aa.Kh (hc BO.Kh hn)))))) F4.ok (by kernel_rfl),
   trivial⟩
theorem A9.ID:A9.Lv.Holds prog:=(Bc.Ej FU).1
theorem B9.ID:B9.Lv.Holds prog:=(Bc.Ej FU).2.2.1
def Mf.k (s:List Dop.Pz):FN (List Dop.Pz):=
 ck (XV s)<|
 ck (Cq none (room 24 (([]:List Dop.Pz).length+s.length)))<|
 CW ([]++s)
def Mf.Kc:=kd 162 Mf.p fun x=>Mf.k x.1.1
theorem Mf.Kh:Mf.Kc.Holds prog:=kh AH hn Mf.ok (by kernel_rfl)
abbrev PC.T:Type:=List UInt8->List Dop.Pz->Bool->(List (List UInt8×Int))->List Dop.Pz->Int->Int->CT->R1 Int CT
abbrev LD.T:Type:=List UInt8->List Dop.Pz->Int->List Dop.Pz->Int->Int->CT->R1 Int CT
abbrev DL.KT:Type:=PC.T×LD.T×Unit
def PC.kB (tK:DL.KT):PC.T:=fun t1 t2 t10 t11 t38 t39 t40 k0=>
 let A1:=List.getD t38 t40.toNat Dop.d16
 let A2:=CY t11 A1.name ((AP t11 A1.name).getD (0:Int)+1)
 let z1:R1 Int CT:=
 ck (Au (t40+1))<|
 tK.1 t1 t2 true A2 t38 t39 (t40+1) k0
 ci (t40<t39) (ck (0<=t40/\t40<I t38.length)<|
 ck (Au ((AP t11 A1.name).getD (0:Int)+1))<|
 ci t10 (z1)<|
 ci (A1.name=[]) (z1)<|
 ck (Au (t40+1))<|
 tK.1 t1 t2 (decide (1<(AP A2 A1.name).getD 0)) A2 t38 t39 (t40+1) k0)<|
 ci t10 (CJ 7 k0)<|
 tK.2.1 t1 t2 0 t2 (I t2.length) 0 k0
def LD.kB (tK:DL.KT):LD.T:=fun t1 t2 t14 t64 t65 t66 k0=>
 ci (t66<t65) (ck (0<=t66/\t66<I t64.length)<|
 (BU.k ((List.getD t64 t66.toNat Dop.d16).Ad) k0).bind fun y3=>
 ci (!y3.1.2.1) (CJ 8 y3.2.1)<|
 ck (Au (t14+y3.1.1))<|
 ck (Au (t66+1))<|
 tK.2.1 t1 t2 (t14+y3.1.1) t64 t65 (t66+1) y3.2.1)<|
 ci (I t2.length=0) (CJ 8 k0)<|
 ci (4096<t14) (CJ 4 k0)<|
 (Mf.k t2).bind fun y5=>
 CJ 0 (CT.X6 k0 (CY k0.fields t1 y5.1.1))
def DL.kS (tK:DL.KT):DL.KT:=(PC.kB tK,LD.kB tK,())
def DL.kL (n:Nat):DL.KT:=DA DL.kS n
def DL.k0 (tK:DL.KT) (t1:List UInt8) (t2:List Dop.Pz) (k0:CT):R1 Int CT:=
 (Ih.k t1 k0).bind fun y2=>
 ci (!(y2.1.2.1=0)) (CJ y2.1.2.1 y2.2.1)<|
 tK.1 t1 t2 ((AP (CT.fields y2.2.1) t1).isSome) (([]:List (List UInt8×Int))) t2 (I t2.length) 0 y2.2.1
def DL.k (t1:List UInt8) (t2:List Dop.Pz) (k0:CT):R1 Int CT:=DL.k0 (DL.kL 1000000) t1 t2 k0
def DL.Kc:=kd 122 DL.p fun x=>DL.k x.1.2.1 x.1.2.2.1 x.2.1
theorem DL.Kh:DL.Kc.Holds prog:=GD AH (hc Ih.Kh (hc BU.ID (hc Mf.Kh hn))) DL.ok (fun t x=>DL.k0 t x.1.2.1 x.1.2.2.1 x.2.1) (fun c=>(fun t1 t2 t10 t11 t38 t39 t40 k0=>c 7 DL.q7 rfl (((),t1,t2,t10,t11,t38,t39,t40,()),(k0,())),fun t1 t2 t14 t64 t65 t66 k0=>c 16 DL.dA rfl (((),t1,t2,t14,t64,t65,t66,()),(k0,())),())) DL.kS (by kernel_rfl)
end
end Go.Proofs.Tryz
