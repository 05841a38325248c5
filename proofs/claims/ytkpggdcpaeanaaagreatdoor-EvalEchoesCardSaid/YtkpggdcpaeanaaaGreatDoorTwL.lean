/-
 Functions in plain words (what their equations say), and their contracts. Written by a program.
-/
import Derived.Test.YtkpggdcpaeanaaaGreatDoorTwQ
import Derived.Test.YtkpggdcpaeanaaaGreatDoorMo
set_option linter.all false
set_option maxRecDepth 100000
set_option maxHeartbeats 4000000
namespace Go.Proofs.Tryz
open Go Go.En
noncomputable section
def C0.k (n:Int) (b0_0:Dop.Fy) (b0_2:List Int) (b0_3:List Dop.DR) (b0_4:List Dop.Ni) (b0_5:Int) (b0_6:List Dop.AR) (b0_7:List (List (List UInt8×Dop.B6))) (b0_8:List (List UInt8×Dop.Of)) (b0_10:Dop.DR) (b0_11 b0_14:Int) (b0_15:List (List (Int×Int))) (b0_16 b0_17 b0_18:Int) (k1:CT):R2 Dop.AR (List Dop.AR×List Dop.HN×Int×Unit×List Int×List Dop.DR×List Dop.Ni×Int×List Dop.AR×List (List (List UInt8×Dop.B6))×List (List UInt8×Dop.Of)×Unit×List UInt8×Int×Int×Int×Int×Int×Unit×Unit×Int×List (List (Int×Int))×Int×Int×Int×Unit) CT:=
 let A1:=Dop.AR.mk 0 (-1) (-1) (-1) (-1) [] 0 0 0
 ci (n<0) (AV A1 (b0_0.nodes,(b0_0.types,(b0_0.top,((),(b0_2,(b0_3,(b0_4,(b0_5,(b0_6,(b0_7,(b0_8,((),(b0_10.name,(b0_10.params,(b0_10.Al,(b0_10.frame,(b0_10.body,(b0_11,((),((),(b0_14,(b0_15,(b0_16,(b0_17,(b0_18,()))))))))))))))))))))))))) k1)<|
 ci (I b0_0.nodes.length<=n) (AV A1 (b0_0.nodes,(b0_0.types,(b0_0.top,((),(b0_2,(b0_3,(b0_4,(b0_5,(b0_6,(b0_7,(b0_8,((),(b0_10.name,(b0_10.params,(b0_10.Al,(b0_10.frame,(b0_10.body,(b0_11,((),((),(b0_14,(b0_15,(b0_16,(b0_17,(b0_18,()))))))))))))))))))))))))) k1)<|
 ck (0<=n/\n<I b0_0.nodes.length)<|
 AV (List.getD b0_0.nodes n.toNat Dop.d5) (b0_0.nodes,(b0_0.types,(b0_0.top,((),(b0_2,(b0_3,(b0_4,(b0_5,(b0_6,(b0_7,(b0_8,((),(b0_10.name,(b0_10.params,(b0_10.Al,(b0_10.frame,(b0_10.body,(b0_11,((),((),(b0_14,(b0_15,(b0_16,(b0_17,(b0_18,()))))))))))))))))))))))))) k1
def C0.Kc:=kd 74 C0.p fun x=>C0.k x.1.2.1 x.2.1.1 x.2.1.2.2.1 x.2.1.2.2.2.1 x.2.1.2.2.2.2.1 x.2.1.2.2.2.2.2.1 x.2.1.2.2.2.2.2.2.1 x.2.1.2.2.2.2.2.2.2.1 x.2.1.2.2.2.2.2.2.2.2.1 x.2.1.2.2.2.2.2.2.2.2.2.2.1 x.2.1.2.2.2.2.2.2.2.2.2.2.2.1 x.2.1.2.2.2.2.2.2.2.2.2.2.2.2.2.2.1 x.2.1.2.2.2.2.2.2.2.2.2.2.2.2.2.2.2.1 x.2.1.2.2.2.2.2.2.2.2.2.2.2.2.2.2.2.2.1 x.2.1.2.2.2.2.2.2.2.2.2.2.2.2.2.2.2.2.2.1 x.2.1.2.2.2.2.2.2.2.2.2.2.2.2.2.2.2.2.2.2.1 x.2.2.1
theorem C0.Kh:C0.Kc.Holds prog:=kh AH hn C0.ok (by kernel_rfl)
def Gz.k (n:Int) (b0_0:Dop.Fy) (b0_2:List Int) (b0_3:List Dop.DR) (b0_4:List Dop.Ni) (b0_5:Int) (b0_6:List Dop.AR) (b0_8:List (List UInt8×Dop.Of)) (b0_9:List (List UInt8×Int)) (b0_10:Dop.DR) (b0_11:Int) (b0_12 b0_13:List (List UInt8×Int)) (b0_14:Int) (b0_15:List (List (Int×Int))) (b0_16 b0_17 b0_18:Int) (k1:CT) (b2:List (List (List UInt8×Dop.B6))):ed Dop.AR (List Dop.AR×List Dop.HN×Int×Unit×List Int×List Dop.DR×List Dop.Ni×Int×List Dop.AR×Unit×List (List UInt8×Dop.Of)×List (List UInt8×Int)×List UInt8×Int×Int×Int×Int×Int×List (List UInt8×Int)×List (List UInt8×Int)×Int×List (List (Int×Int))×Int×Int×Int×Unit) CT (List (List (List UInt8×Dop.B6))×Unit):=
 let A1:=Dop.AR.mk 0 (-1) (-1) (-1) (-1) [] 0 0 0
 ci (n<0) (Xt A1 (b0_0.nodes,(b0_0.types,(b0_0.top,((),(b0_2,(b0_3,(b0_4,(b0_5,(b0_6,((),(b0_8,(b0_9,(b0_10.name,(b0_10.params,(b0_10.Al,(b0_10.frame,(b0_10.body,(b0_11,(b0_12,(b0_13,(b0_14,(b0_15,(b0_16,(b0_17,(b0_18,()))))))))))))))))))))))))) k1 (b2,()))<|
 ci (I b0_0.nodes.length<=n) (Xt A1 (b0_0.nodes,(b0_0.types,(b0_0.top,((),(b0_2,(b0_3,(b0_4,(b0_5,(b0_6,((),(b0_8,(b0_9,(b0_10.name,(b0_10.params,(b0_10.Al,(b0_10.frame,(b0_10.body,(b0_11,(b0_12,(b0_13,(b0_14,(b0_15,(b0_16,(b0_17,(b0_18,()))))))))))))))))))))))))) k1 (b2,()))<|
 ck (0<=n/\n<I b0_0.nodes.length)<|
 Xt (List.getD b0_0.nodes n.toNat Dop.d5) (b0_0.nodes,(b0_0.types,(b0_0.top,((),(b0_2,(b0_3,(b0_4,(b0_5,(b0_6,((),(b0_8,(b0_9,(b0_10.name,(b0_10.params,(b0_10.Al,(b0_10.frame,(b0_10.body,(b0_11,(b0_12,(b0_13,(b0_14,(b0_15,(b0_16,(b0_17,(b0_18,()))))))))))))))))))))))))) k1 (b2,())
def Gz.Kc:=kd 74 Gz.p fun x=>Gz.k x.1.2.1 x.2.1.1 x.2.1.2.2.1 x.2.1.2.2.2.1 x.2.1.2.2.2.2.1 x.2.1.2.2.2.2.2.1 x.2.1.2.2.2.2.2.2.1 x.2.1.2.2.2.2.2.2.2.2.1 x.2.1.2.2.2.2.2.2.2.2.2.1 x.2.1.2.2.2.2.2.2.2.2.2.2.1 x.2.1.2.2.2.2.2.2.2.2.2.2.2.1 x.2.1.2.2.2.2.2.2.2.2.2.2.2.2.1 x.2.1.2.2.2.2.2.2.2.2.2.2.2.2.2.1 x.2.1.2.2.2.2.2.2.2.2.2.2.2.2.2.2.1 x.2.1.2.2.2.2.2.2.2.2.2.2.2.2.2.2.2.1 x.2.1.2.2.2.2.2.2.2.2.2.2.2.2.2.2.2.2.1 x.2.1.2.2.2.2.2.2.2.2.2.2.2.2.2.2.2.2.2.1 x.2.1.2.2.2.2.2.2.2.2.2.2.2.2.2.2.2.2.2.2.1 x.2.2.1 x.2.2.2.1.1
theorem Gz.Kh:Gz.Kc.Holds prog:=kh AH hn Gz.ok (by kernel_rfl)
def LA.k (k1:CK) (k2:CT):ed Dop.Ae (Unit×Unit) CK CT:=
 (Em.k 1 k1 k2).bind fun y2=>
 Xt (Dop.Ae.mk y2.1.1 1 0 0 false) ((),()) y2.2.1 y2.2.2.1
def LA.Kc:=kd 223 LA.p fun x=>LA.k x.2.2.1 x.2.2.2.1
theorem LA.Kh:LA.Kc.Holds prog:=kh AH (hc Em.Kh hn) LA.ok (by kernel_rfl)
abbrev Gv.T:Type:=List UInt8->Int->Bool->Int->CK->CT->Dop.Ae->Dop.Ae->Dop.Ae->ed Dop.Ae CK CT (Unit×Unit)
abbrev Aj.KT:Type:=Gv.T×Unit
def Gv.kB (tK:Aj.KT):Gv.T:=fun t2 t4 t5 t13 k0 k1 b3 b4 b5=>
 ci (!t5) ((LA.k k0 k1).bind fun y3=>
 (Bl.k t2 b5 y3.1.1 t4 y3.2.2.1 y3.2.2.2.1).bind fun y4=>
 (Dp.k y4.1.1.Ay y4.2.1 y4.2.2.1).bind fun y5=>
 ci y5.1.1 ((Dp.k b3.Ay y5.2.1 y5.2.2.1).bind fun y7=>
 (BN.k y4.1.1 b3.Ay t4 y7.1.1 y7.2.1 y7.2.2.1).bind fun y8=>
 (Df.k b5 y8.1.1 y8.2.1 y8.2.2.1).bind fun y9=>
 (Eb.k t13 y9.1.1 y9.2.1 y9.2.2.1).bind fun y10=>
 Xt (Dop.Ae.mk y10.1.1 b3.Ay 0 0 false) y10.2.1 y10.2.2.1 ((),()))<|
 (BN.k y4.1.1 b3.Ay t4 false y5.2.1 y5.2.2.1).bind fun y7=>
 (Df.k b5 y7.1.1 y7.2.1 y7.2.2.1).bind fun y8=>
 (Eb.k t13 y8.1.1 y8.2.1 y8.2.2.1).bind fun y9=>
 Xt (Dop.Ae.mk y9.1.1 b3.Ay 0 0 false) y9.2.1 y9.2.2.1 ((),()))<|
 (Ir.k t4 k0 k1).bind fun y3=>
 (Hg.k y3.1.1 b5.n y3.2.1 y3.2.2.1).bind fun y4=>
 (EL.k y3.1.1 y4.2.1 y4.2.2.1).bind fun y5=>
 (LA.k y5.2.1 y5.2.2.1).bind fun y6=>
 (Bl.k t2 (Dop.Ae.mk y5.1.1 b3.Ay 0 0 false) y6.1.1 t4 y6.2.2.1 y6.2.2.2.1).bind fun y7=>
 (Dp.k y7.1.1.Ay y7.2.1 y7.2.2.1).bind fun y8=>
 ci y8.1.1 ((Dp.k b3.Ay y8.2.1 y8.2.2.1).bind fun y10=>
 (BN.k y7.1.1 b3.Ay t4 y10.1.1 y10.2.1 y10.2.2.1).bind fun y11=>
 (Df.k b5 y11.1.1 y11.2.1 y11.2.2.1).bind fun y12=>
 (EL.k y3.1.1 y12.2.1 y12.2.2.1).bind fun y13=>
 (Eb.k y12.1.1 y13.1.1 y13.2.1 y13.2.2.1).bind fun y14=>
 (Eb.k y4.1.1 y14.1.1 y14.2.1 y14.2.2.1).bind fun y15=>
 (Eb.k t13 y15.1.1 y15.2.1 y15.2.2.1).bind fun y16=>
 Xt (Dop.Ae.mk y16.1.1 b3.Ay 0 0 false) y16.2.1 y16.2.2.1 ((),()))<|
 (BN.k y7.1.1 b3.Ay t4 false y8.2.1 y8.2.2.1).bind fun y10=>
 (Df.k b5 y10.1.1 y10.2.1 y10.2.2.1).bind fun y11=>
 (EL.k y3.1.1 y11.2.1 y11.2.2.1).bind fun y12=>
 (Eb.k y11.1.1 y12.1.1 y12.2.1 y12.2.2.1).bind fun y13=>
 (Eb.k y4.1.1 y13.1.1 y13.2.1 y13.2.2.1).bind fun y14=>
 (Eb.k t13 y14.1.1 y14.2.1 y14.2.2.1).bind fun y15=>
 Xt (Dop.Ae.mk y15.1.1 b3.Ay 0 0 false) y15.2.1 y15.2.2.1 ((),())
def Aj.kS (tK:Aj.KT):Aj.KT:=(Gv.kB tK,())
def Aj.kL (n:Nat):Aj.KT:=Cv Aj.kS n
def Aj.k0 (tK:Aj.KT) (t1:Dop.Ae) (t2:List UInt8) (t4:Int) (t5:Bool) (k0:CK) (k1:CT):ed Dop.Ae CK CT (Unit×Unit):=
 let A1:=Dop.Ae.mk 0 0 0 0 false
 ci (!(k0.e=0)) ((Ag.k 8 t4 k0 k1).bind fun y3=>
 Xt y3.1.1 y3.2.1 y3.2.2.1 ((),()))<|
 ci (t1.left=0) ((Ag.k 8 t4 k0 k1).bind fun y4=>
 Xt y4.1.1 y4.2.1 y4.2.2.1 ((),()))<|
 (DY.k t1.Ay k1).bind fun y4=>
 ci (!y4.1.1) ((Ag.k 8 t4 k0 y4.2.1).bind fun y6=>
 Xt y6.1.1 y6.2.1 y6.2.2.1 ((),()))<|
 (KS.k t1 t4 k0 y4.2.1).bind fun y6=>
 ci (y6.1.2.1.left=1) ((EL.k y6.1.2.1.at_ y6.2.1 y6.2.2.1).bind fun y8=>
 tK.1 t2 t4 t5 y6.1.1 y8.2.1 y8.2.2.1 t1 A1 (Dop.Ae.mk y8.1.1 y6.1.2.1.Ay y6.1.2.1.left y6.1.2.1.at_ y6.1.2.1.zero))<|
 tK.1 t2 t4 t5 y6.1.1 y6.2.1 y6.2.2.1 t1 A1 y6.1.2.1
def Aj.k (t1:Dop.Ae) (t2:List UInt8) (t4:Int) (t5:Bool) (k0:CK) (k1:CT):ed Dop.Ae CK CT (Unit×Unit):=Aj.k0 (Aj.kL 1000000) t1 t2 t4 t5 k0 k1
def Aj.Kc:=kd 220 Aj.p fun x=>Aj.k x.1.2.1 x.1.2.2.1 x.1.2.2.2.2.1 x.1.2.2.2.2.2.1 x.2.1 x.2.2.1
theorem Aj.Kh:Aj.Kc.Holds prog:=E7 AH (hc DY.Kh (hc Ag.Kh (hc KS.Kh (hc EL.Kh (hc LA.Kh (hc Bl.Kh (hc Dp.Kh (hc BN.Kh (hc Df.Kh (hc Eb.Kh (hc Ir.Kh (hc Hg.Kh hn)))))))))))) Aj.ok (fun t x=>Aj.k0 t x.1.2.1 x.1.2.2.1 x.1.2.2.2.2.1 x.1.2.2.2.2.2.1 x.2.1 x.2.2.1) (fun c=>(fun t2 t4 t5 t13 k0 k1 b3 b4 b5=>c 6 Aj.q6 rfl (((),t2,(),t4,t5,(),(),t13,(),()),(k0,k1,((),()),(b3,()),(b4,()),(b5,()),())),())) Aj.kS (by kernel_rfl)
abbrev Bc.kr (r:BS.T) (t1:Int) (k0:CK) (k1:CT):R2 Dop.Ae CK CT:=r.1 (((),t1,()),(k0,k1,()))
abbrev K9.kr (r:BS.T) (t1:Dop.AR) (t2:Int) (k0:CK) (k1:CT):R2 Dop.Ae CK CT:=r.2.1 (((),t1,t2,()),(k0,k1,()))
abbrev CZ.kr (r:BS.T) (n:Int) (k0:CK) (k1:CT):R2 Dop.Ae CK CT:=r.2.2.1 (((),n,()),(k0,k1,()))
abbrev Af.kr (r:BS.T) (t1:Dop.Ae) (t2:List UInt8) (t4:Int) (t5:Bool) (k0:CK) (k1:CT) (b3:Dop.AR):Option ((Dop.Ae×Unit)×(CK×CT×(Unit×Unit)×(Dop.AR×Unit)×Unit)):=r.2.2.2.1 (((),t1,t2,(),t4,t5,()),(k0,k1,((),()),(b3,()),()))
abbrev KQ.kr (r:BS.T) (k1:CK) (k2:CT) (b3:Dop.AR):Option ((Dop.Ae×Unit)×((Unit×Unit)×CK×CT×(Dop.AR×Unit)×Unit)):=r.2.2.2.2.1 (((),(),()),(((),()),k1,k2,(b3,()),()))
abbrev LB.kr (r:BS.T) (t1:Dop.AR) (t2:Int) (k0:CK) (k1:CT):R2 Dop.Ae CK CT:=r.2.2.2.2.2.1 (((),t1,t2,()),(k0,k1,()))
abbrev Dy.kr (r:BS.T) (t1:Dop.AR) (t2:Int) (k0:CK) (k1:CT):R2 Dop.Ae CK CT:=r.2.2.2.2.2.2.1 (((),t1,t2,()),(k0,k1,()))
abbrev PQ.T:Type:=Int->CK->CT->Dop.Ae->Dop.AR->R2 Dop.Ae CK CT
abbrev Lh.T:Type:=Int->CK->CT->Dop.Ae->Dop.AR->R2 Dop.Ae CK CT
abbrev Li.T:Type:=Int->CK->CT->Dop.Ae->Dop.AR->R2 Dop.Ae CK CT
abbrev Lj.T:Type:=Int->Int->CK->CT->Dop.Ae->Dop.AR->R2 Dop.Ae CK CT
abbrev Bc.KT:Type:=PQ.T×Lh.T×Li.T×Lj.T×Unit
def PQ.kB (rK:BS.T) (tK:Bc.KT):PQ.T:=fun t6 k0 k1 b3 b4=>
 (Em.k b4.n k0 k1).bind fun y2=>
 AV (Dop.Ae.mk y2.1.1 t6 0 0 (decide (b4.n=0))) y2.2.1 y2.2.2.1
def Lh.kB (rK:BS.T) (tK:Bc.KT):Lh.T:=fun t9 k0 k1 b3 b4=>
 (CZ.kr rK b4.a k0 k1).bind fun y2=>
 (CZ.kr rK b4.b y2.2.1 y2.2.2.1).bind fun y3=>
 (BZ.k t9 y2.1.1.n y3.1.1.n ((-1)) 0 [] y3.2.1 y3.2.2.1).bind fun y4=>
 AV (Dop.Ae.mk y4.1.1 1 0 0 false) y4.2.1 y4.2.2.1
def Li.kB (rK:BS.T) (tK:Bc.KT):Li.T:=fun t1 k0 k1 b3 b4=>
 (Bc.kr rK b4.a k0 k1).bind fun y2=>
 ck ((0:Int)<=0/\(0:Int)<=1/\1<=I b4.text.length)<|
 (Aj.k y2.1.1 (List.drop (Int.toNat 0) (List.take (Int.toNat 1) b4.text)) t1 (decide (b4.kind=13)) y2.2.1 y2.2.2.1).bind A7
def Lj.kB (rK:BS.T) (tK:Bc.KT):Lj.T:=fun t1 t36 k0 k1 b3 b4=>
 let A2:=C9.k b4.AZ t1 k0 k1
 let A1:=CZ.kr rK b4.a k0 k1
 ci (t36=6) (A1.bind fun y3=>
 (CZ.kr rK b4.b y3.2.1 y3.2.2.1).bind fun y4=>
 (CZ.kr rK b4.c y4.2.1 y4.2.2.1).bind fun y5=>
 (EM.k y3.1.1 y4.1.1 y5.1.1 t1 y5.2.1 y5.2.2.1).bind A7)<|
 ci (t36=7) (A1.bind fun y4=>
 (CZ.kr rK b4.b y4.2.1 y4.2.2.1).bind fun y5=>
 ci (!(CK.e y5.2.1=0)) ((Ag.k 8 t1 y5.2.1 y5.2.2.1).bind A7)<|
 (Co.k y4.1.1.Ay y5.2.1 y5.2.2.1).bind fun y7=>
 ci (!(y7.1.1=4)) ((Ag.k 8 t1 y7.2.1 y7.2.2.1).bind A7)<|
 (Dp.k y5.1.1.Ay y7.2.1 y7.2.2.1).bind fun y9=>
 ci (!y9.1.1) ((Ag.k 8 t1 y9.2.1 y9.2.2.1).bind A7)<|
 (Bl.k ([43]:List UInt8) y4.1.1 y5.1.1 t1 y9.2.1 y9.2.2.1).bind fun y11=>
 (Iv.k y11.1.1 t1 y11.2.1 y11.2.2.1).bind A7)<|
 ci (t36=8) ((LB.kr rK b4 t1 k0 k1).bind A7)<|
 ci (t36=9) ((Dy.kr rK b4 t1 k0 k1).bind A7)<|
 ci (t36=10) (A2.bind fun y7=>
 (CZ.kr rK b4.a y7.2.1 y7.2.2.1).bind fun y8=>
 (BN.k y8.1.1 y7.1.1 t1 true y8.2.1 y8.2.2.1).bind fun y9=>
 AV (Dop.Ae.mk y9.1.1 y7.1.1 0 0 false) y9.2.1 y9.2.2.1)<|
 ci (t36=11) (A2.bind fun y8=>
 (Be.k y8.1.1 y8.2.2.1).bind fun y9=>
 ci (!y9.1.2.1) ((Ag.k 8 t1 y8.2.1 y9.2.1).bind A7)<|
 (Em.k y9.1.1 y8.2.1 y9.2.1).bind fun y11=>
 AV (Dop.Ae.mk y11.1.1 2 0 0 false) y11.2.1 y11.2.2.1)<|
 ci (t36=14) ((BZ.k 13 ((-1)) ((-1)) ((-1)) 0 [] k0 k1).bind fun y9=>
 AV (Dop.Ae.mk y9.1.1 1 0 0 false) y9.2.1 y9.2.2.1)<|
 A1.bind fun y9=>
 (BZ.k 14 y9.1.1.n ((-1)) ((-1)) 0 [] y9.2.1 y9.2.2.1).bind fun y10=>
 AV (Dop.Ae.mk y10.1.1 1 0 0 false) y10.2.1 y10.2.2.1
def Bc.kS (rK:BS.T) (tK:Bc.KT):Bc.KT:=(PQ.kB rK tK,Lh.kB rK tK,Li.kB rK tK,Lj.kB rK tK,())
def Bc.kL (rK:BS.T) (n:Nat):Bc.KT:=Cv (Bc.kS rK) n
def Bc.k0 (rK:BS.T) (tK:Bc.KT) (t1:Int) (k0:CK) (k1:CT):R2 Dop.Ae CK CT:=
 let A1:=Dop.Ae.mk 0 0 0 0 false
 ci (!(k0.e=0)) (AV (Dop.Ae.mk (-1) 1 0 0 false) k0 k1)<|
 (Nj.k t1 k0 k1).bind fun y3=>
 let z1:R2 Dop.Ae CK CT:=
 ci (y3.1.1.text=(124:UInt8)::(124:UInt8)::[]) (tK.2.1 11 y3.2.1 y3.2.2.1 A1 y3.1.1)<|
 tK.2.1 10 y3.2.1 y3.2.2.1 A1 y3.1.1
 ci (y3.1.1.kind=1) (ci (2147483648<=y3.1.1.n) (tK.1 2 y3.2.1 y3.2.2.1 A1 y3.1.1)<|
 tK.1 1 y3.2.1 y3.2.2.1 A1 y3.1.1)<|
 ci (y3.1.1.kind=2) (ck ((CK.names (CK.t y3.2.1,(),CK.num y3.2.1,CK.funcs y3.2.1,CK.globals y3.2.1,CK.top y3.2.1,CK.nodes y3.2.1,CK.names y3.2.1,CK.sigs y3.2.1,CK.taken y3.2.1,CK.f y3.2.1,CK.BX y3.2.1,CK.labels y3.2.1,CK.gotos y3.2.1,CK.loops y3.2.1,CK.BE y3.2.1,CK.Gh y3.2.1,CK.e y3.2.1,CK.when y3.2.1,())).length<9223372036854775807)<|
 ci (!(CY y3.1.1.text (CK.names (CK.t y3.2.1,(),CK.num y3.2.1,CK.funcs y3.2.1,CK.globals y3.2.1,CK.top y3.2.1,CK.nodes y3.2.1,CK.names y3.2.1,CK.sigs y3.2.1,CK.taken y3.2.1,CK.f y3.2.1,CK.BX y3.2.1,CK.labels y3.2.1,CK.gotos y3.2.1,CK.loops y3.2.1,CK.BE y3.2.1,CK.Gh y3.2.1,CK.e y3.2.1,CK.when y3.2.1,()))).isSome) ((Ag.k 7 t1 y3.2.1 y3.2.2.1).bind A7)<|
 ci (((CY y3.1.1.text (CK.names (CK.t y3.2.1,(),CK.num y3.2.1,CK.funcs y3.2.1,CK.globals y3.2.1,CK.top y3.2.1,CK.nodes y3.2.1,CK.names y3.2.1,CK.sigs y3.2.1,CK.taken y3.2.1,CK.f y3.2.1,CK.BX y3.2.1,CK.labels y3.2.1,CK.gotos y3.2.1,CK.loops y3.2.1,CK.BE y3.2.1,CK.Gh y3.2.1,CK.e y3.2.1,CK.when y3.2.1,()))).getD Dop.d9).kind=2) ((EL.k (((CY y3.1.1.text (CK.names (CK.t y3.2.1,(),CK.num y3.2.1,CK.funcs y3.2.1,CK.globals y3.2.1,CK.top y3.2.1,CK.nodes y3.2.1,CK.names y3.2.1,CK.sigs y3.2.1,CK.taken y3.2.1,CK.f y3.2.1,CK.BX y3.2.1,CK.labels y3.2.1,CK.gotos y3.2.1,CK.loops y3.2.1,CK.BE y3.2.1,CK.Gh y3.2.1,CK.e y3.2.1,CK.when y3.2.1,()))).getD Dop.d9).n) y3.2.1 y3.2.2.1).bind fun y8=>
 AV (Dop.Ae.mk y8.1.1 ((CY y3.1.1.text (CK.names (CK.t y3.2.1,(),CK.num y3.2.1,CK.funcs y3.2.1,CK.globals y3.2.1,CK.top y3.2.1,CK.nodes y3.2.1,CK.names y3.2.1,CK.sigs y3.2.1,CK.taken y3.2.1,CK.f y3.2.1,CK.BX y3.2.1,CK.labels y3.2.1,CK.gotos y3.2.1,CK.loops y3.2.1,CK.BE y3.2.1,CK.Gh y3.2.1,CK.e y3.2.1,CK.when y3.2.1,()))).getD Dop.d9).Ay 1 ((CY y3.1.1.text (CK.names (CK.t y3.2.1,(),CK.num y3.2.1,CK.funcs y3.2.1,CK.globals y3.2.1,CK.top y3.2.1,CK.nodes y3.2.1,CK.names y3.2.1,CK.sigs y3.2.1,CK.taken y3.2.1,CK.f y3.2.1,CK.BX y3.2.1,CK.labels y3.2.1,CK.gotos y3.2.1,CK.loops y3.2.1,CK.BE y3.2.1,CK.Gh y3.2.1,CK.e y3.2.1,CK.when y3.2.1,()))).getD Dop.d9).n false) y8.2.1 y8.2.2.1)<|
 (Ff.k ((CY y3.1.1.text (CK.names (CK.t y3.2.1,(),CK.num y3.2.1,CK.funcs y3.2.1,CK.globals y3.2.1,CK.top y3.2.1,CK.nodes y3.2.1,CK.names y3.2.1,CK.sigs y3.2.1,CK.taken y3.2.1,CK.f y3.2.1,CK.BX y3.2.1,CK.labels y3.2.1,CK.gotos y3.2.1,CK.loops y3.2.1,CK.BE y3.2.1,CK.Gh y3.2.1,CK.e y3.2.1,CK.when y3.2.1,()))).getD Dop.d9) y3.2.1 y3.2.2.1).bind fun y8=>
 (II.k y8.1.1 (((CY y3.1.1.text (CK.names (CK.t y3.2.1,(),CK.num y3.2.1,CK.funcs y3.2.1,CK.globals y3.2.1,CK.top y3.2.1,CK.nodes y3.2.1,CK.names y3.2.1,CK.sigs y3.2.1,CK.taken y3.2.1,CK.f y3.2.1,CK.BX y3.2.1,CK.labels y3.2.1,CK.gotos y3.2.1,CK.loops y3.2.1,CK.BE y3.2.1,CK.Gh y3.2.1,CK.e y3.2.1,CK.when y3.2.1,()))).getD Dop.d9).Ay) y8.2.1 y8.2.2.1).bind A7)<|
 ci (y3.1.1.kind=3) ((K9.kr rK y3.1.1 t1 y3.2.1 y3.2.2.1).bind A7)<|
 ci (y3.1.1.kind=4) (ci (y3.1.1.text=(38:UInt8)::(38:UInt8)::[]) (z1)<|
 ci (y3.1.1.text=(124:UInt8)::(124:UInt8)::[]) (z1)<|
 (CZ.kr rK y3.1.1.a y3.2.1 y3.2.2.1).bind fun y10=>
 (CZ.kr rK y3.1.1.b y10.2.1 y10.2.2.1).bind fun y11=>
 (Bl.k y3.1.1.text y10.1.1 y11.1.1 t1 y11.2.1 y11.2.2.1).bind A7)<|
 ci (y3.1.1.kind=5) ((Bc.kr rK y3.1.1.a y3.2.1 y3.2.2.1).bind fun y9=>
 ci (CK.e y9.2.1=0) (ci (y9.1.1.left=0) ((Ag.k 8 t1 y9.2.1 y9.2.2.1).bind A7)<|
 (DY.k y9.1.1.Ay y9.2.2.1).bind fun y12=>
 ci (!y12.1.1) ((Ag.k 8 t1 y9.2.1 y12.2.1).bind A7)<|
 ci (y3.1.1.text=(61:UInt8)::[]) ((CZ.kr rK y3.1.1.b y9.2.1 y12.2.1).bind fun y15=>
 (BN.k y15.1.1 y9.1.1.Ay t1 false y15.2.1 y15.2.2.1).bind fun y16=>
 (Df.k y9.1.1 y16.1.1 y16.2.1 y16.2.2.1).bind fun y17=>
 AV (Dop.Ae.mk y17.1.1 y9.1.1.Ay 0 0 false) y17.2.1 y17.2.2.1)<|
 ck (Uz y3.1.1.text)<|
 (Af.kr rK y9.1.1 (Lib.trimSuffix y3.1.1.text ([61]:List UInt8)) t1 false y9.2.1 y12.2.1 y3.1.1).bind A7)<|
 ci (y3.1.1.text=(61:UInt8)::[]) ((CZ.kr rK y3.1.1.b y9.2.1 y9.2.2.1).bind fun y12=>
 (BN.k y12.1.1 y9.1.1.Ay t1 false y12.2.1 y12.2.2.1).bind fun y13=>
 (Df.k y9.1.1 y13.1.1 y13.2.1 y13.2.2.1).bind fun y14=>
 AV (Dop.Ae.mk y14.1.1 y9.1.1.Ay 0 0 false) y14.2.1 y14.2.2.1)<|
 ck (Uz y3.1.1.text)<|
 (Af.kr rK y9.1.1 (Lib.trimSuffix y3.1.1.text ([61]:List UInt8)) t1 false y9.2.1 y9.2.2.1 y3.1.1).bind A7)<|
 ci (y3.1.1.kind=12) (ci (y3.1.1.kind=12) (tK.2.2.1 t1 y3.2.1 y3.2.2.1 A1 y3.1.1)<|
 tK.2.2.2.1 t1 y3.1.1.kind y3.2.1 y3.2.2.1 A1 y3.1.1)<|
 ci (y3.1.1.kind=13) (tK.2.2.1 t1 y3.2.1 y3.2.2.1 A1 y3.1.1)<|
 tK.2.2.2.1 t1 y3.1.1.kind y3.2.1 y3.2.2.1 A1 y3.1.1
def Bc.kf (rK:BS.T) (t1:Int) (k0:CK) (k1:CT):R2 Dop.Ae CK CT:=Bc.k0 rK (Bc.kL rK 1000000) t1 k0 k1
def K9.kf (rK:BS.T) (t1:Dop.AR) (t2:Int) (k0:CK) (k1:CT):R2 Dop.Ae CK CT:=
 let A1:=CZ.kr rK t1.a k0 k1
 ci (t1.text=(42:UInt8)::[]) (A1.bind fun y3=>
 (Iv.k y3.1.1 t2 y3.2.1 y3.2.2.1).bind A7)<|
 ci (t1.text=(38:UInt8)::[]) ((Nj.k t1.a k0 k1).bind fun y4=>
 ci (y4.1.1.kind=2) (ck ((CK.names (CK.t y4.2.1,(),CK.num y4.2.1,CK.funcs y4.2.1,CK.globals y4.2.1,CK.top y4.2.1,CK.nodes y4.2.1,CK.names y4.2.1,CK.sigs y4.2.1,CK.taken y4.2.1,CK.f y4.2.1,CK.BX y4.2.1,CK.labels y4.2.1,CK.gotos y4.2.1,CK.loops y4.2.1,CK.BE y4.2.1,CK.Gh y4.2.1,CK.e y4.2.1,CK.when y4.2.1,())).length<9223372036854775807)<|
 ci (!(CY y4.1.1.text (CK.names (CK.t y4.2.1,(),CK.num y4.2.1,CK.funcs y4.2.1,CK.globals y4.2.1,CK.top y4.2.1,CK.nodes y4.2.1,CK.names y4.2.1,CK.sigs y4.2.1,CK.taken y4.2.1,CK.f y4.2.1,CK.BX y4.2.1,CK.labels y4.2.1,CK.gotos y4.2.1,CK.loops y4.2.1,CK.BE y4.2.1,CK.Gh y4.2.1,CK.e y4.2.1,CK.when y4.2.1,()))).isSome) ((Ag.k 7 t1.a y4.2.1 y4.2.2.1).bind A7)<|
 (Ff.k ((CY y4.1.1.text (CK.names (CK.t y4.2.1,(),CK.num y4.2.1,CK.funcs y4.2.1,CK.globals y4.2.1,CK.top y4.2.1,CK.nodes y4.2.1,CK.names y4.2.1,CK.sigs y4.2.1,CK.taken y4.2.1,CK.f y4.2.1,CK.BX y4.2.1,CK.labels y4.2.1,CK.gotos y4.2.1,CK.loops y4.2.1,CK.BE y4.2.1,CK.Gh y4.2.1,CK.e y4.2.1,CK.when y4.2.1,()))).getD Dop.d9) y4.2.1 y4.2.2.1).bind fun y7=>
 (Iw.k (((CY y4.1.1.text (CK.names (CK.t y4.2.1,(),CK.num y4.2.1,CK.funcs y4.2.1,CK.globals y4.2.1,CK.top y4.2.1,CK.nodes y4.2.1,CK.names y4.2.1,CK.sigs y4.2.1,CK.taken y4.2.1,CK.f y4.2.1,CK.BX y4.2.1,CK.labels y4.2.1,CK.gotos y4.2.1,CK.loops y4.2.1,CK.BE y4.2.1,CK.Gh y4.2.1,CK.e y4.2.1,CK.when y4.2.1,()))).getD Dop.d9).Ay) y7.2.1 y7.2.2.1).bind fun y8=>
 AV (Dop.Ae.mk y7.1.1 y8.1.1 0 0 false) y8.2.1 y8.2.2.1)<|
 (Bc.kr rK t1.a y4.2.1 y4.2.2.1).bind fun y6=>
 ci (CK.e y6.2.1=0) (ci (!(y6.1.1.left=2)) ((Ag.k 8 t2 y6.2.1 y6.2.2.1).bind A7)<|
 (Iw.k y6.1.1.Ay y6.2.1 y6.2.2.1).bind fun y9=>
 AV (Dop.Ae.mk y6.1.1.at_ y9.1.1 0 0 false) y9.2.1 y9.2.2.1)<|
 (Iw.k y6.1.1.Ay y6.2.1 y6.2.2.1).bind fun y8=>
 AV (Dop.Ae.mk y6.1.1.at_ y8.1.1 0 0 false) y8.2.1 y8.2.2.1)<|
 ci (t1.text=(33:UInt8)::[]) (A1.bind fun y5=>
 (Hf.k 23 y5.1.1.n y5.2.1 y5.2.2.1).bind fun y6=>
 AV (Dop.Ae.mk y6.1.1 1 0 0 false) y6.2.1 y6.2.2.1)<|
 A1.bind fun y5=>
 ci (CK.e y5.2.1=0) ((Dp.k y5.1.1.Ay y5.2.1 y5.2.2.1).bind fun y7=>
 ci (!y7.1.1) ((Ag.k 8 t2 y7.2.1 y7.2.2.1).bind A7)<|
 ci (t1.text=(126:UInt8)::[]) ((Hf.k 21 y5.1.1.n y7.2.1 y7.2.2.1).bind fun y10=>
 (Gw.k y5.1.1.Ay y5.1.1.Ay y10.2.1 y10.2.2.1).bind fun y11=>
 AV (Dop.Ae.mk y10.1.1 y11.1.1 0 0 false) y11.2.1 y11.2.2.1)<|
 (Hf.k 20 y5.1.1.n y7.2.1 y7.2.2.1).bind fun y10=>
 (Gw.k y5.1.1.Ay y5.1.1.Ay y10.2.1 y10.2.2.1).bind fun y11=>
 AV (Dop.Ae.mk y10.1.1 y11.1.1 0 0 false) y11.2.1 y11.2.2.1)<|
 ci (t1.text=(126:UInt8)::[]) ((Hf.k 21 y5.1.1.n y5.2.1 y5.2.2.1).bind fun y8=>
 (Gw.k y5.1.1.Ay y5.1.1.Ay y8.2.1 y8.2.2.1).bind fun y9=>
 AV (Dop.Ae.mk y8.1.1 y9.1.1 0 0 false) y9.2.1 y9.2.2.1)<|
 (Hf.k 20 y5.1.1.n y5.2.1 y5.2.2.1).bind fun y8=>
 (Gw.k y5.1.1.Ay y5.1.1.Ay y8.2.1 y8.2.2.1).bind fun y9=>
 AV (Dop.Ae.mk y8.1.1 y9.1.1 0 0 false) y9.2.1 y9.2.2.1
def CZ.kf (rK:BS.T) (n:Int) (k0:CK) (k1:CT):R2 Dop.Ae CK CT:=
 (Bc.kr rK n k0 k1).bind fun y2=>
 ci (CK.e y2.2.1=0) ((DY.k y2.1.1.Ay y2.2.2.1).bind fun y4=>
 ci (!y4.1.1) ((Ag.k 8 n y2.2.1 y4.2.1).bind A7)<|
 AV y2.1.1 y2.2.1 y4.2.1)<|
 AV y2.1.1 y2.2.1 y2.2.2.1
abbrev Gu.T:Type:=List UInt8->Int->Bool->Int->CK->CT->Dop.AR->Dop.Ae->Dop.Ae->Dop.Ae->Option ((Dop.Ae×Unit)×(CK×CT×(Unit×Unit)×(Dop.AR×Unit)×Unit))
abbrev Af.KT:Type:=Gu.T×Unit
def Gu.kB (rK:BS.T) (tK:Af.KT):Gu.T:=fun t2 t4 t5 t13 k0 k1 b3 b4 b5 b6=>
 ci (!t5) ((KQ.kr rK k0 k1 b3).bind fun y3=>
 (Bl.k t2 b6 y3.1.1 t4 y3.2.2.1 y3.2.2.2.1).bind fun y4=>
 (Dp.k y4.1.1.Ay y4.2.1 y4.2.2.1).bind fun y5=>
 ci y5.1.1 ((Dp.k b4.Ay y5.2.1 y5.2.2.1).bind fun y7=>
 (BN.k y4.1.1 b4.Ay t4 y7.1.1 y7.2.1 y7.2.2.1).bind fun y8=>
 (Df.k b6 y8.1.1 y8.2.1 y8.2.2.1).bind fun y9=>
 (Eb.k t13 y9.1.1 y9.2.1 y9.2.2.1).bind fun y10=>
 some ((Dop.Ae.mk y10.1.1 b4.Ay 0 0 false,()),(y10.2.1,(y10.2.2.1,(((),()),((y3.2.2.2.2.1.1,()),()))))))<|
 (BN.k y4.1.1 b4.Ay t4 false y5.2.1 y5.2.2.1).bind fun y7=>
 (Df.k b6 y7.1.1 y7.2.1 y7.2.2.1).bind fun y8=>
 (Eb.k t13 y8.1.1 y8.2.1 y8.2.2.1).bind fun y9=>
 some ((Dop.Ae.mk y9.1.1 b4.Ay 0 0 false,()),(y9.2.1,(y9.2.2.1,(((),()),((y3.2.2.2.2.1.1,()),()))))))<|
 (Ir.k t4 k0 k1).bind fun y3=>
 (Hg.k y3.1.1 b6.n y3.2.1 y3.2.2.1).bind fun y4=>
 (EL.k y3.1.1 y4.2.1 y4.2.2.1).bind fun y5=>
 (KQ.kr rK y5.2.1 y5.2.2.1 b3).bind fun y6=>
 (Bl.k t2 (Dop.Ae.mk y5.1.1 b4.Ay 0 0 false) y6.1.1 t4 y6.2.2.1 y6.2.2.2.1).bind fun y7=>
 (Dp.k y7.1.1.Ay y7.2.1 y7.2.2.1).bind fun y8=>
 ci y8.1.1 ((Dp.k b4.Ay y8.2.1 y8.2.2.1).bind fun y10=>
 (BN.k y7.1.1 b4.Ay t4 y10.1.1 y10.2.1 y10.2.2.1).bind fun y11=>
 (Df.k b6 y11.1.1 y11.2.1 y11.2.2.1).bind fun y12=>
 (EL.k y3.1.1 y12.2.1 y12.2.2.1).bind fun y13=>
 (Eb.k y12.1.1 y13.1.1 y13.2.1 y13.2.2.1).bind fun y14=>
 (Eb.k y4.1.1 y14.1.1 y14.2.1 y14.2.2.1).bind fun y15=>
 (Eb.k t13 y15.1.1 y15.2.1 y15.2.2.1).bind fun y16=>
 some ((Dop.Ae.mk y16.1.1 b4.Ay 0 0 false,()),(y16.2.1,(y16.2.2.1,(((),()),((y6.2.2.2.2.1.1,()),()))))))<|
 (BN.k y7.1.1 b4.Ay t4 false y8.2.1 y8.2.2.1).bind fun y10=>
 (Df.k b6 y10.1.1 y10.2.1 y10.2.2.1).bind fun y11=>
 (EL.k y3.1.1 y11.2.1 y11.2.2.1).bind fun y12=>
 (Eb.k y11.1.1 y12.1.1 y12.2.1 y12.2.2.1).bind fun y13=>
 (Eb.k y4.1.1 y13.1.1 y13.2.1 y13.2.2.1).bind fun y14=>
 (Eb.k t13 y14.1.1 y14.2.1 y14.2.2.1).bind fun y15=>
 some ((Dop.Ae.mk y15.1.1 b4.Ay 0 0 false,()),(y15.2.1,(y15.2.2.1,(((),()),((y6.2.2.2.2.1.1,()),())))))
def Af.kS (rK:BS.T) (tK:Af.KT):Af.KT:=(Gu.kB rK tK,())
def Af.kL (rK:BS.T) (n:Nat):Af.KT:=Cv (Af.kS rK) n
def Af.k0 (rK:BS.T) (tK:Af.KT) (t1:Dop.Ae) (t2:List UInt8) (t4:Int) (t5:Bool) (k0:CK) (k1:CT) (b3:Dop.AR):Option ((Dop.Ae×Unit)×(CK×CT×(Unit×Unit)×(Dop.AR×Unit)×Unit)):=
 let A1:=Dop.Ae.mk 0 0 0 0 false
 ci (!(k0.e=0)) ((Ag.k 8 t4 k0 k1).bind fun y3=>
 some ((y3.1.1,()),(y3.2.1,(y3.2.2.1,(((),()),((b3,()),()))))))<|
 ci (t1.left=0) ((Ag.k 8 t4 k0 k1).bind fun y4=>
 some ((y4.1.1,()),(y4.2.1,(y4.2.2.1,(((),()),((b3,()),()))))))<|
 (DY.k t1.Ay k1).bind fun y4=>
 ci (!y4.1.1) ((Ag.k 8 t4 k0 y4.2.1).bind fun y6=>
 some ((y6.1.1,()),(y6.2.1,(y6.2.2.1,(((),()),((b3,()),()))))))<|
 (KS.k t1 t4 k0 y4.2.1).bind fun y6=>
 ci (y6.1.2.1.left=1) ((EL.k y6.1.2.1.at_ y6.2.1 y6.2.2.1).bind fun y8=>
 tK.1 t2 t4 t5 y6.1.1 y8.2.1 y8.2.2.1 b3 t1 A1 (Dop.Ae.mk y8.1.1 y6.1.2.1.Ay y6.1.2.1.left y6.1.2.1.at_ y6.1.2.1.zero))<|
 tK.1 t2 t4 t5 y6.1.1 y6.2.1 y6.2.2.1 b3 t1 A1 y6.1.2.1
def Af.kf (rK:BS.T) (t1:Dop.Ae) (t2:List UInt8) (t4:Int) (t5:Bool) (k0:CK) (k1:CT) (b3:Dop.AR):Option ((Dop.Ae×Unit)×(CK×CT×(Unit×Unit)×(Dop.AR×Unit)×Unit)):=Af.k0 rK (Af.kL rK 1000000) t1 t2 t4 t5 k0 k1 b3
def KQ.kf (rK:BS.T) (k1:CK) (k2:CT) (b3:Dop.AR):Option ((Dop.Ae×Unit)×((Unit×Unit)×CK×CT×(Dop.AR×Unit)×Unit)):=
 (CZ.kr rK b3.b k1 k2).bind fun y2=>
 some ((y2.1.1,()),(((),()),(y2.2.1,(y2.2.2.1,((b3,()),())))))
def LB.kf (rK:BS.T) (t1:Dop.AR) (t2:Int) (k0:CK) (k1:CT):R2 Dop.Ae CK CT:=
 (Bc.kr rK t1.a k0 k1).bind fun y2=>
 ci (t1.n=1) ((Iv.k y2.1.1 t2 y2.2.1 y2.2.2.1).bind fun y4=>
 ci (!(CK.e y4.2.1=0)) ((Ag.k 8 t2 y4.2.1 y4.2.2.1).bind A7)<|
 (Co.k y4.1.1.Ay y4.2.1 y4.2.2.1).bind fun y6=>
 ci (!(y6.1.1=6)) ((Ag.k 8 t2 y6.2.1 y6.2.2.1).bind A7)<|
 (D5.k y4.1.1.Ay t1.text y6.2.2.1).bind fun y8=>
 ci (!y8.1.2.2.1) ((Ag.k 7 t2 y6.2.1 y8.2.1).bind A7)<|
 (Em.k y8.1.1 y6.2.1 y8.2.1).bind fun y10=>
 (Cj.k 1 y4.1.1.at_ y10.1.1 y10.2.1 y10.2.2.1).bind fun y11=>
 (II.k y11.1.1 y8.1.2.1 y11.2.1 y11.2.2.1).bind A7)<|
 ci (!(CK.e y2.2.1=0)) ((Ag.k 8 t2 y2.2.1 y2.2.2.1).bind A7)<|
 (Co.k y2.1.1.Ay y2.2.1 y2.2.2.1).bind fun y5=>
 ci (!(y5.1.1=6)) ((Ag.k 8 t2 y5.2.1 y5.2.2.1).bind A7)<|
 (D5.k y2.1.1.Ay t1.text y5.2.2.1).bind fun y7=>
 ci (!y7.1.2.2.1) ((Ag.k 7 t2 y5.2.1 y7.2.1).bind A7)<|
 (Em.k y7.1.1 y5.2.1 y7.2.1).bind fun y9=>
 (Cj.k 1 y2.1.1.at_ y9.1.1 y9.2.1 y9.2.2.1).bind fun y10=>
 (II.k y10.1.1 y7.1.2.1 y10.2.1 y10.2.2.1).bind A7
abbrev PV.T:Type:=List Int->List Int->Int->Int->CK->CT->Dop.AR->Dop.Ae->Dop.Of->R2 Dop.Ae CK CT
abbrev Dy.KT:Type:=PV.T×Unit
def PV.kB (rK:BS.T) (tK:Dy.KT):PV.T:=fun t10 t45 t46 t47 k0 k1 b2 b3 b4=>
 let A1:=List.getD t45 t47.toNat 0
 ci (t47<t46) (ck (0<=t47/\t47<I t45.length)<|
 ck (t47.toNat<t45.length)<|
 (CZ.kr rK A1 k0 k1).bind fun y3=>
 ck (0<=t47/\t47<I b4.params.length)<|
 (BN.k y3.1.1 (List.getD b4.params t47.toNat 0) A1 false y3.2.1 y3.2.2.1).bind fun y4=>
 ck (Cc none (room 8 (t10.length+(y4.1.1::[]).length)))<|
 ck (Ap (t47+1))<|
 tK.1 (t10++y4.1.1::[]) t45 t46 (t47+1) y4.2.1 y4.2.2.1 b2 b3 b4)<|
 (Ab.k t10 k0 k1).bind fun y3=>
 (BZ.k 12 y3.1.1 ((-1)) ((-1)) 0 b2.text y3.2.1 y3.2.2.1).bind fun y4=>
 AV (Dop.Ae.mk y4.1.1 b4.BX 0 0 false) y4.2.1 y4.2.2.1
def Dy.kS (rK:BS.T) (tK:Dy.KT):Dy.KT:=(PV.kB rK tK,())
def Dy.kL (rK:BS.T) (n:Nat):Dy.KT:=Cv (Dy.kS rK) n
def Dy.k0 (rK:BS.T) (tK:Dy.KT) (t1:Dop.AR) (t2:Int) (k0:CK) (k1:CT):R2 Dop.Ae CK CT:=
 let A1:=AL k0.sigs t1.text
 ci (!A1.isSome) ((Ag.k 7 t2 k0 k1).bind A7)<|
 (Ga.k k0.t t1.a).bind fun y3=>
 ci (!(I y3.1.1.length=I (A1.getD Dop.d15).params.length)) ((Ag.k 8 t2 k0 k1).bind A7)<|
 tK.1 [] y3.1.1 (I y3.1.1.length) 0 k0 k1 t1 (Dop.Ae.mk 0 0 0 0 false) (A1.getD Dop.d15)
def Dy.kf (rK:BS.T) (t1:Dop.AR) (t2:Int) (k0:CK) (k1:CT):R2 Dop.Ae CK CT:=Dy.k0 rK (Dy.kL rK 1000000) t1 t2 k0 k1
def BS.kS (r:BS.T):BS.T:=(fun x=>Bc.kf r x.1.2.1 x.2.1 x.2.2.1,fun x=>K9.kf r x.1.2.1 x.1.2.2.1 x.2.1 x.2.2.1,fun x=>CZ.kf r x.1.2.1 x.2.1 x.2.2.1,fun x=>Af.kf r x.1.2.1 x.1.2.2.1 x.1.2.2.2.2.1 x.1.2.2.2.2.2.1 x.2.1 x.2.2.1 x.2.2.2.2.1.1,fun x=>KQ.kf r x.2.2.1 x.2.2.2.1 x.2.2.2.2.1.1,fun x=>LB.kf r x.1.2.1 x.1.2.2.1 x.2.1 x.2.2.1,fun x=>Dy.kf r x.1.2.1 x.1.2.2.1 x.2.1 x.2.2.1,())
def BS.kR (n:Nat):BS.T:=Cv BS.kS n
def Bc.Kc (n:Nat):=kd 194 Bc.p (BS.kR n).1
def Bc.Od:=Bc.Kc FU
def Bc.k:=Bc.kr (BS.kR FU)
def K9.Kc (n:Nat):=kd 218 K9.p (BS.kR n).2.1
def CZ.Kc (n:Nat):=kd 167 CZ.p (BS.kR n).2.2.1
def CZ.Od:=CZ.Kc FU
def CZ.k:=CZ.kr (BS.kR FU)
def Af.Kc (n:Nat):=kd 220 Af.p (BS.kR n).2.2.2.1
def KQ.Kc (n:Nat):=kd 222 KQ.p (BS.kR n).2.2.2.2.1
def LB.Kc (n:Nat):=kd 226 LB.p (BS.kR n).2.2.2.2.2.1
def Dy.Kc (n:Nat):=kd 227 Dy.p (BS.kR n).2.2.2.2.2.2.1
def BS.Re (n:Nat):List (CC Dop.D4):=[Bc.Kc n,K9.Kc n,CZ.Kc n,Af.Kc n,KQ.Kc n,LB.Kc n,Dy.Kc n]
theorem BS.E0: ∀ n,(Bc.Kc n).Holds prog/\(K9.Kc n).Holds prog/\(CZ.Kc n).Holds prog/\(Af.Kc n).Holds prog/\(KQ.Kc n).Holds prog/\(LB.Kc n).Holds prog/\(Dy.Kc n).Holds prog/\True
 | 0=>⟨AN AH Bc.ok,AN AH K9.ok,AN AH CZ.ok,AN AH Af.ok,AN AH KQ.ok,AN AH LB.ok,AN AH Dy.ok,trivial⟩
 | n+1=>by
  obtain ⟨h0,h1,h2,h3,h4,h5,h6,_⟩:=BS.E0 n
  have hh: ∀ c∈BS.Re n,c.Holds prog:=(hc h0 (hc h1 (hc h2 (hc h3 (hc h4 (hc h5 (hc h6 hn)))))))
  exact ⟨E7 AH (Ac hh (hc Nj.Kh (hc Em.Kh (hc Dr.holds (hc Ag.Kh (hc EL.Kh (hc Ff.Kh (hc II.Kh (hc BZ.Kh (hc Bl.Kh (hc DY.Kh (hc BN.Kh (hc Df.Kh (hc trimSuffix.holds (hc Aj.Kh (hc EM.Kh (hc Co.Kh (hc Dp.Kh (hc Iv.Kh (hc C9.Kh (hc Be.IL hn))))))))))))))))))))) Bc.ok (fun t x=>Bc.k0 (BS.kR n) t x.1.2.1 x.2.1 x.2.2.1) (fun c=>(fun t6 k0 k1 b3 b4=>c 9 Bc.q9 rfl (((),(),(),t6,()),(k0,k1,((),()),(b3,()),(b4,()),())),fun t9 k0 k1 b3 b4=>c 24 Bc.Xr rfl (((),(),(),t9,()),(k0,k1,((),()),(b3,()),(b4,()),())),fun t1 k0 k1 b3 b4=>c 40 Bc.kb rfl ((t1,(),(),(),()),(k0,k1,((),()),(b3,()),(b4,()),())),fun t1 t36 k0 k1 b3 b4=>c 41 Bc.ke rfl ((t1,(),(),(),t36,()),(k0,k1,((),()),(b3,()),(b4,()),())),())) (Bc.kS (BS.kR n)) (by kernel_rfl),
   kh AH (Ac hh (hc Iv.Kh (hc Nj.Kh (hc Dr.holds (hc Ag.Kh (hc Ff.Kh (hc Iw.Kh (hc Hf.Kh (hc Dp.Kh (hc Gw.Kh hn)))))))))) K9.ok (by kernel_rfl),
   kh AH (Ac hh (hc DY.Kh (hc Ag.Kh hn))) CZ.ok (by kernel_rfl),
   E7 AH (Ac hh (hc DY.Kh (hc Ag.Kh (hc KS.Kh (hc EL.Kh (hc Bl.Kh (hc Dp.Kh (hc BN.Kh (hc Df.Kh (hc Eb.Kh (hc Ir.Kh (hc Hg.Kh hn)))))))))))) Af.ok (fun t x=>Af.k0 (BS.kR n) t x.1.2.1 x.1.2.2.1 x.1.2.2.2.2.1 x.1.2.2.2.2.2.1 x.2.1 x.2.2.1 x.2.2.2.2.1.1) (fun c=>(fun t2 t4 t5 t13 k0 k1 b3 b4 b5 b6=>c 6 Af.q6 rfl (((),t2,(),t4,t5,(),(),t13,(),()),(k0,k1,((),()),(b3,()),(b4,()),(b5,()),(b6,()),())),())) (Af.kS (BS.kR n)) (by kernel_rfl),
   kh AH (Ac hh hn) KQ.ok (by kernel_rfl),
   kh AH (Ac hh (hc Iv.Kh (hc Co.Kh (hc Ag.Kh (hc D5.Kh (hc Em.Kh (hc Cj.Kh (hc II.Kh hn)))))))) LB.ok (by kernel_rfl),
   E7 AH (Ac hh (hc Ag.Kh (hc Ga.Kh (hc BN.Kh (hc Ab.Kh (hc BZ.Kh hn)))))) Dy.ok (fun t x=>Dy.k0 (BS.kR n) t x.1.2.1 x.1.2.2.1 x.2.1 x.2.2.1) (fun c=>(fun t10 t45 t46 t47 k0 k1 b2 b3 b4=>c 9 Dy.q9 rfl (((),(),(),(),t10,t45,t46,t47,()),(k0,k1,(b2,()),(b3,()),(b4,()),())),())) (Dy.kS (BS.kR n)) (by kernel_rfl),
   trivial⟩
theorem Bc.IL:Bc.Od.Holds prog:=(BS.E0 FU).1
theorem CZ.IL:CZ.Od.Holds prog:=(BS.E0 FU).2.2.1
def Mq.k (s:List Dop.No):F8 (List Dop.No):=
 ck (XW s)<|
 ck (Cc none (room 24 (([]:List Dop.No).length+s.length)))<|
 ED ([]++s)
def Mq.Kc:=kd 162 Mq.p fun x=>Mq.k x.1.1
theorem Mq.Kh:Mq.Kc.Holds prog:=kh AH hn Mq.ok (by kernel_rfl)
abbrev PK.T:Type:=List UInt8->List Dop.No->Bool->(List (List UInt8×Int))->List Dop.No->Int->Int->CT->R1 Int CT
abbrev LU.T:Type:=List UInt8->List Dop.No->Int->List Dop.No->Int->Int->CT->R1 Int CT
abbrev DX.KT:Type:=PK.T×LU.T×Unit
def PK.kB (tK:DX.KT):PK.T:=fun t1 t2 t10 t11 t38 t39 t40 k0=>
 let A1:=List.getD t38 t40.toNat Dop.d16
 let A2:=BO t11 A1.name ((AL t11 A1.name).getD (0:Int)+1)
 let z1:R1 Int CT:=
 ck (Ap (t40+1))<|
 tK.1 t1 t2 true A2 t38 t39 (t40+1) k0
 ci (t40<t39) (ck (0<=t40/\t40<I t38.length)<|
 ck (Ap ((AL t11 A1.name).getD (0:Int)+1))<|
 ci t10 (z1)<|
 ci (A1.name=[]) (z1)<|
 ck (Ap (t40+1))<|
 tK.1 t1 t2 (decide (1<(AL A2 A1.name).getD 0)) A2 t38 t39 (t40+1) k0)<|
 ci t10 (CS 7 k0)<|
 tK.2.1 t1 t2 0 t2 (I t2.length) 0 k0
def LU.kB (tK:DX.KT):LU.T:=fun t1 t2 t14 t64 t65 t66 k0=>
 ci (t66<t65) (ck (0<=t66/\t66<I t64.length)<|
 (Be.k ((List.getD t64 t66.toNat Dop.d16).AZ) k0).bind fun y3=>
 ci (!y3.1.2.1) (CS 8 y3.2.1)<|
 ck (Ap (t14+y3.1.1))<|
 ck (Ap (t66+1))<|
 tK.2.1 t1 t2 (t14+y3.1.1) t64 t65 (t66+1) y3.2.1)<|
 ci (I t2.length=0) (CS 8 k0)<|
 ci (4096<t14) (CS 4 k0)<|
 (Mq.k t2).bind fun y5=>
 CS 0 (CT.YA k0 (BO k0.fields t1 y5.1.1))
def DX.kS (tK:DX.KT):DX.KT:=(PK.kB tK,LU.kB tK,())
def DX.kL (n:Nat):DX.KT:=Cv DX.kS n
def DX.k0 (tK:DX.KT) (t1:List UInt8) (t2:List Dop.No) (k0:CT):R1 Int CT:=
 (Iq.k t1 k0).bind fun y2=>
 ci (!(y2.1.2.1=0)) (CS y2.1.2.1 y2.2.1)<|
 tK.1 t1 t2 ((AL (CT.fields y2.2.1) t1).isSome) (([]:List (List UInt8×Int))) t2 (I t2.length) 0 y2.2.1
def DX.k (t1:List UInt8) (t2:List Dop.No) (k0:CT):R1 Int CT:=DX.k0 (DX.kL 1000000) t1 t2 k0
def DX.Kc:=kd 122 DX.p fun x=>DX.k x.1.2.1 x.1.2.2.1 x.2.1
theorem DX.Kh:DX.Kc.Holds prog:=E7 AH (hc Iq.Kh (hc Be.IL (hc Mq.Kh hn))) DX.ok (fun t x=>DX.k0 t x.1.2.1 x.1.2.2.1 x.2.1) (fun c=>(fun t1 t2 t10 t11 t38 t39 t40 k0=>c 7 DX.q7 rfl (((),t1,t2,t10,t11,t38,t39,t40,()),(k0,())),fun t1 t2 t14 t64 t65 t66 k0=>c 16 DX.aX rfl (((),t1,t2,t14,t64,t65,t66,()),(k0,())),())) DX.kS (by kernel_rfl)
end
end Go.Proofs.Tryz
