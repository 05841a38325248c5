/-
 Functions in plain words (what their equations say), and their contracts. Written by a program.
-/
import Derived.Test.YtkpggdcpaeanaaaGreatDoorTwQ
import Derived.Test.YtkpggdcpaeanaaaGreatDoorMo
set_option maxRecDepth 100000
set_option maxHeartbeats 4000000
namespace Go.Proofs.Tryz
open Go Go.En
noncomputable section
def Cr.k (n:Int) (b0_0:Dop.FV) (b0_2:List Int) (b0_3:List Dop.Db) (b0_4:List Dop.My) (b0_5:Int) (b0_6:List Dop.Aa) (b0_7:List (List (List UInt8×Dop.B3))) (b0_8:List (List UInt8×Dop.Nb)) (b0_10:Dop.Db) (b0_11 b0_14:Int) (b0_15:List (List (Int×Int))) (b0_16 b0_17 b0_18:Int) (k1:CT):R2 Dop.Aa (List Dop.Aa×List Dop.Gr×Int×Unit×List Int×List Dop.Db×List Dop.My×Int×List Dop.Aa×List (List (List UInt8×Dop.B3))×List (List UInt8×Dop.Nb)×Unit×List UInt8×Int×Int×Int×Int×Int×Unit×Unit×Int×List (List (Int×Int))×Int×Int×Int×Unit) CT:=
 let A1:=Dop.Aa.mk 0 (-1) (-1) (-1) (-1) [] 0 0 0
 ci (n<0) (BR A1 (b0_0.nodes,(b0_0.types,(b0_0.top,((),(b0_2,(b0_3,(b0_4,(b0_5,(b0_6,(b0_7,(b0_8,((),(b0_10.name,(b0_10.params,(b0_10.BH,(b0_10.frame,(b0_10.body,(b0_11,((),((),(b0_14,(b0_15,(b0_16,(b0_17,(b0_18,()))))))))))))))))))))))))) k1)<|
 ci (I b0_0.nodes.length≤n) (BR A1 (b0_0.nodes,(b0_0.types,(b0_0.top,((),(b0_2,(b0_3,(b0_4,(b0_5,(b0_6,(b0_7,(b0_8,((),(b0_10.name,(b0_10.params,(b0_10.BH,(b0_10.frame,(b0_10.body,(b0_11,((),((),(b0_14,(b0_15,(b0_16,(b0_17,(b0_18,()))))))))))))))))))))))))) k1)<|
 ck (0≤n∧n<I b0_0.nodes.length)<|
 BR (List.getD b0_0.nodes n.toNat Dop.d5) (b0_0.nodes,(b0_0.types,(b0_0.top,((),(b0_2,(b0_3,(b0_4,(b0_5,(b0_6,(b0_7,(b0_8,((),(b0_10.name,(b0_10.params,(b0_10.BH,(b0_10.frame,(b0_10.body,(b0_11,((),((),(b0_14,(b0_15,(b0_16,(b0_17,(b0_18,()))))))))))))))))))))))))) k1
def Cr.Kc:=kd 74 Cr.p fun x=>Cr.k x.1.2.1 x.2.1.1 x.2.1.2.2.1 x.2.1.2.2.2.1 x.2.1.2.2.2.2.1 x.2.1.2.2.2.2.2.1 x.2.1.2.2.2.2.2.2.1 x.2.1.2.2.2.2.2.2.2.1 x.2.1.2.2.2.2.2.2.2.2.1 x.2.1.2.2.2.2.2.2.2.2.2.2.1 x.2.1.2.2.2.2.2.2.2.2.2.2.2.1 x.2.1.2.2.2.2.2.2.2.2.2.2.2.2.2.2.1 x.2.1.2.2.2.2.2.2.2.2.2.2.2.2.2.2.2.1 x.2.1.2.2.2.2.2.2.2.2.2.2.2.2.2.2.2.2.1 x.2.1.2.2.2.2.2.2.2.2.2.2.2.2.2.2.2.2.2.1 x.2.1.2.2.2.2.2.2.2.2.2.2.2.2.2.2.2.2.2.2.1 x.2.2.1
theorem Cr.Kh:Cr.Kc.Holds prog:=kh AJ hn Cr.ok (by kernel_rfl)
def GQ.k (n:Int) (b0_0:Dop.FV) (b0_2:List Int) (b0_3:List Dop.Db) (b0_4:List Dop.My) (b0_5:Int) (b0_6:List Dop.Aa) (b0_8:List (List UInt8×Dop.Nb)) (b0_9:List (List UInt8×Int)) (b0_10:Dop.Db) (b0_11:Int) (b0_12 b0_13:List (List UInt8×Int)) (b0_14:Int) (b0_15:List (List (Int×Int))) (b0_16 b0_17 b0_18:Int) (k1:CT) (b2:List (List (List UInt8×Dop.B3))):cz Dop.Aa (List Dop.Aa×List Dop.Gr×Int×Unit×List Int×List Dop.Db×List Dop.My×Int×List Dop.Aa×Unit×List (List UInt8×Dop.Nb)×List (List UInt8×Int)×List UInt8×Int×Int×Int×Int×Int×List (List UInt8×Int)×List (List UInt8×Int)×Int×List (List (Int×Int))×Int×Int×Int×Unit) CT (List (List (List UInt8×Dop.B3))×Unit):=
 let A1:=Dop.Aa.mk 0 (-1) (-1) (-1) (-1) [] 0 0 0
 ci (n<0) (Wb A1 (b0_0.nodes,(b0_0.types,(b0_0.top,((),(b0_2,(b0_3,(b0_4,(b0_5,(b0_6,((),(b0_8,(b0_9,(b0_10.name,(b0_10.params,(b0_10.BH,(b0_10.frame,(b0_10.body,(b0_11,(b0_12,(b0_13,(b0_14,(b0_15,(b0_16,(b0_17,(b0_18,()))))))))))))))))))))))))) k1 (b2,()))<|
 ci (I b0_0.nodes.length≤n) (Wb A1 (b0_0.nodes,(b0_0.types,(b0_0.top,((),(b0_2,(b0_3,(b0_4,(b0_5,(b0_6,((),(b0_8,(b0_9,(b0_10.name,(b0_10.params,(b0_10.BH,(b0_10.frame,(b0_10.body,(b0_11,(b0_12,(b0_13,(b0_14,(b0_15,(b0_16,(b0_17,(b0_18,()))))))))))))))))))))))))) k1 (b2,()))<|
 ck (0≤n∧n<I b0_0.nodes.length)<|
 Wb (List.getD b0_0.nodes n.toNat Dop.d5) (b0_0.nodes,(b0_0.types,(b0_0.top,((),(b0_2,(b0_3,(b0_4,(b0_5,(b0_6,((),(b0_8,(b0_9,(b0_10.name,(b0_10.params,(b0_10.BH,(b0_10.frame,(b0_10.body,(b0_11,(b0_12,(b0_13,(b0_14,(b0_15,(b0_16,(b0_17,(b0_18,()))))))))))))))))))))))))) k1 (b2,())
def GQ.Kc:=kd 74 GQ.p fun x=>GQ.k x.1.2.1 x.2.1.1 x.2.1.2.2.1 x.2.1.2.2.2.1 x.2.1.2.2.2.2.1 x.2.1.2.2.2.2.2.1 x.2.1.2.2.2.2.2.2.1 x.2.1.2.2.2.2.2.2.2.2.1 x.2.1.2.2.2.2.2.2.2.2.2.1 x.2.1.2.2.2.2.2.2.2.2.2.2.1 x.2.1.2.2.2.2.2.2.2.2.2.2.2.1 x.2.1.2.2.2.2.2.2.2.2.2.2.2.2.1 x.2.1.2.2.2.2.2.2.2.2.2.2.2.2.2.1 x.2.1.2.2.2.2.2.2.2.2.2.2.2.2.2.2.1 x.2.1.2.2.2.2.2.2.2.2.2.2.2.2.2.2.2.1 x.2.1.2.2.2.2.2.2.2.2.2.2.2.2.2.2.2.2.1 x.2.1.2.2.2.2.2.2.2.2.2.2.2.2.2.2.2.2.2.1 x.2.1.2.2.2.2.2.2.2.2.2.2.2.2.2.2.2.2.2.2.1 x.2.2.1 x.2.2.2.1.1
theorem GQ.Kh:GQ.Kc.Holds prog:=kh AJ hn GQ.ok (by kernel_rfl)
def KQ.k (k1:CK) (k2:CT):cz Dop.AZ (Unit×Unit) CK CT:=
 (EP.k 1 k1 k2).bind fun y2=>
 Wb (Dop.AZ.mk y2.1.1 1 0 0 false) ((),()) y2.2.1 y2.2.2.1
def KQ.Kc:=kd 223 KQ.p fun x=>KQ.k x.2.2.1 x.2.2.2.1
theorem KQ.Kh:KQ.Kc.Holds prog:=kh AJ (hc EP.Kh hn) KQ.ok (by kernel_rfl)
abbrev GN.T:Type:=List UInt8→Int→Bool→Int→CK→CT→Dop.AZ→Dop.AZ→Dop.AZ→cz Dop.AZ CK CT (Unit×Unit)
abbrev Ag.KT:Type:=GN.T×Unit
def GN.kB (tK:Ag.KT):GN.T:=fun t2 t4 t5 t13 k0 k1 b3 b4 b5=>
 ci (!t5) ((KQ.k k0 k1).bind fun y3=>
 (Be.k t2 b5 y3.1.1 t4 y3.2.2.1 y3.2.2.2.1).bind fun y4=>
 (Dc.k y4.1.1.At y4.2.1 y4.2.2.1).bind fun y5=>
 ci y5.1.1 ((Dc.k b3.At y5.2.1 y5.2.2.1).bind fun y7=>
 (BE.k y4.1.1 b3.At t4 y7.1.1 y7.2.1 y7.2.2.1).bind fun y8=>
 (DS.k b5 y8.1.1 y8.2.1 y8.2.2.1).bind fun y9=>
 (EG.k t13 y9.1.1 y9.2.1 y9.2.2.1).bind fun y10=>
 Wb (Dop.AZ.mk y10.1.1 b3.At 0 0 false) y10.2.1 y10.2.2.1 ((),()))<|
 (BE.k y4.1.1 b3.At t4 false y5.2.1 y5.2.2.1).bind fun y7=>
 (DS.k b5 y7.1.1 y7.2.1 y7.2.2.1).bind fun y8=>
 (EG.k t13 y8.1.1 y8.2.1 y8.2.2.1).bind fun y9=>
 Wb (Dop.AZ.mk y9.1.1 b3.At 0 0 false) y9.2.1 y9.2.2.1 ((),()))<|
 (IC.k t4 k0 k1).bind fun y3=>
 (G8.k y3.1.1 b5.n y3.2.1 y3.2.2.1).bind fun y4=>
 (Dy.k y3.1.1 y4.2.1 y4.2.2.1).bind fun y5=>
 (KQ.k y5.2.1 y5.2.2.1).bind fun y6=>
 (Be.k t2 (Dop.AZ.mk y5.1.1 b3.At 0 0 false) y6.1.1 t4 y6.2.2.1 y6.2.2.2.1).bind fun y7=>
 (Dc.k y7.1.1.At y7.2.1 y7.2.2.1).bind fun y8=>
 ci y8.1.1 ((Dc.k b3.At y8.2.1 y8.2.2.1).bind fun y10=>
 (BE.k y7.1.1 b3.At t4 y10.1.1 y10.2.1 y10.2.2.1).bind fun y11=>
 (DS.k b5 y11.1.1 y11.2.1 y11.2.2.1).bind fun y12=>
 (Dy.k y3.1.1 y12.2.1 y12.2.2.1).bind fun y13=>
 (EG.k y12.1.1 y13.1.1 y13.2.1 y13.2.2.1).bind fun y14=>
 (EG.k y4.1.1 y14.1.1 y14.2.1 y14.2.2.1).bind fun y15=>
 (EG.k t13 y15.1.1 y15.2.1 y15.2.2.1).bind fun y16=>
 Wb (Dop.AZ.mk y16.1.1 b3.At 0 0 false) y16.2.1 y16.2.2.1 ((),()))<|
 (BE.k y7.1.1 b3.At t4 false y8.2.1 y8.2.2.1).bind fun y10=>
 (DS.k b5 y10.1.1 y10.2.1 y10.2.2.1).bind fun y11=>
 (Dy.k y3.1.1 y11.2.1 y11.2.2.1).bind fun y12=>
 (EG.k y11.1.1 y12.1.1 y12.2.1 y12.2.2.1).bind fun y13=>
 (EG.k y4.1.1 y13.1.1 y13.2.1 y13.2.2.1).bind fun y14=>
 (EG.k t13 y14.1.1 y14.2.1 y14.2.2.1).bind fun y15=>
 Wb (Dop.AZ.mk y15.1.1 b3.At 0 0 false) y15.2.1 y15.2.2.1 ((),())
def Ag.kS (tK:Ag.KT):Ag.KT:=(GN.kB tK,())
def Ag.kL (n:Nat):Ag.KT:=Eu Ag.kS n
def Ag.k0 (tK:Ag.KT) (t1:Dop.AZ) (t2:List UInt8) (t4:Int) (t5:Bool) (k0:CK) (k1:CT):cz Dop.AZ CK CT (Unit×Unit):=
 let A1:=Dop.AZ.mk 0 0 0 0 false
 ci (!(k0.e=0)) ((Ac.k 8 t4 k0 k1).bind fun y3=>
 Wb y3.1.1 y3.2.1 y3.2.2.1 ((),()))<|
 ci (t1.left=0) ((Ac.k 8 t4 k0 k1).bind fun y4=>
 Wb y4.1.1 y4.2.1 y4.2.2.1 ((),()))<|
 (DL.k t1.At k1).bind fun y4=>
 ci (!y4.1.1) ((Ac.k 8 t4 k0 y4.2.1).bind fun y6=>
 Wb y6.1.1 y6.2.1 y6.2.2.1 ((),()))<|
 (Jl.k t1 t4 k0 y4.2.1).bind fun y6=>
 ci (y6.1.2.1.left=1) ((Dy.k y6.1.2.1.at_ y6.2.1 y6.2.2.1).bind fun y8=>
 tK.1 t2 t4 t5 y6.1.1 y8.2.1 y8.2.2.1 t1 A1 (Dop.AZ.mk y8.1.1 y6.1.2.1.At y6.1.2.1.left y6.1.2.1.at_ y6.1.2.1.zero))<|
 tK.1 t2 t4 t5 y6.1.1 y6.2.1 y6.2.2.1 t1 A1 y6.1.2.1
def Ag.k (t1:Dop.AZ) (t2:List UInt8) (t4:Int) (t5:Bool) (k0:CK) (k1:CT):cz Dop.AZ CK CT (Unit×Unit):=Ag.k0 (Ag.kL 1000000) t1 t2 t4 t5 k0 k1
def Ag.Kc:=kd 220 Ag.p fun x=>Ag.k x.1.2.1 x.1.2.2.1 x.1.2.2.2.2.1 x.1.2.2.2.2.2.1 x.2.1 x.2.2.1
theorem Ag.Kh:Ag.Kc.Holds prog:=GG AJ (hc DL.Kh (hc Ac.Kh (hc Jl.Kh (hc Dy.Kh (hc KQ.Kh (hc Be.Kh (hc Dc.Kh (hc BE.Kh (hc DS.Kh (hc EG.Kh (hc IC.Kh (hc G8.Kh hn)))))))))))) Ag.ok (fun t x=>Ag.k0 t x.1.2.1 x.1.2.2.1 x.1.2.2.2.2.1 x.1.2.2.2.2.2.1 x.2.1 x.2.2.1) (fun c=>(fun t2 t4 t5 t13 k0 k1 b3 b4 b5=>c 6 Ag.q6 rfl (((),t2,(),t4,t5,(),(),t13,(),()),(k0,k1,((),()),(b3,()),(b4,()),(b5,()),())),())) Ag.kS (by kernel_rfl)
abbrev BU.kr (r:BK.T) (t1:Int) (k0:CK) (k1:CT):R2 Dop.AZ CK CT:=r.1 (((),t1,()),(k0,k1,()))
abbrev KP.kr (r:BK.T) (t1:Dop.Aa) (t2:Int) (k0:CK) (k1:CT):R2 Dop.AZ CK CT:=r.2.1 (((),t1,t2,()),(k0,k1,()))
abbrev CR.kr (r:BK.T) (n:Int) (k0:CK) (k1:CT):R2 Dop.AZ CK CT:=r.2.2.1 (((),n,()),(k0,k1,()))
abbrev Ab.kr (r:BK.T) (t1:Dop.AZ) (t2:List UInt8) (t4:Int) (t5:Bool) (k0:CK) (k1:CT) (b3:Dop.Aa):Option ((Dop.AZ×Unit)×(CK×CT×(Unit×Unit)×(Dop.Aa×Unit)×Unit)):=r.2.2.2.1 (((),t1,t2,(),t4,t5,()),(k0,k1,((),()),(b3,()),()))
abbrev Jj.kr (r:BK.T) (k1:CK) (k2:CT) (b3:Dop.Aa):Option ((Dop.AZ×Unit)×((Unit×Unit)×CK×CT×(Dop.Aa×Unit)×Unit)):=r.2.2.2.2.1 (((),(),()),(((),()),k1,k2,(b3,()),()))
abbrev KR.kr (r:BK.T) (t1:Dop.Aa) (t2:Int) (k0:CK) (k1:CT):R2 Dop.AZ CK CT:=r.2.2.2.2.2.1 (((),t1,t2,()),(k0,k1,()))
abbrev Dk.kr (r:BK.T) (t1:Dop.Aa) (t2:Int) (k0:CK) (k1:CT):R2 Dop.AZ CK CT:=r.2.2.2.2.2.2.1 (((),t1,t2,()),(k0,k1,()))
abbrev OH.T:Type:=Int→CK→CT→Dop.AZ→Dop.Aa→R2 Dop.AZ CK CT
abbrev Kq.T:Type:=Int→CK→CT→Dop.AZ→Dop.Aa→R2 Dop.AZ CK CT
abbrev Ks.T:Type:=Int→CK→CT→Dop.AZ→Dop.Aa→R2 Dop.AZ CK CT
abbrev Kt.T:Type:=Int→Int→CK→CT→Dop.AZ→Dop.Aa→R2 Dop.AZ CK CT
abbrev BU.KT:Type:=OH.T×Kq.T×Ks.T×Kt.T×Unit
def OH.kB (rK:BK.T) (tK:BU.KT):OH.T:=fun t6 k0 k1 b3 b4=>
 (EP.k b4.n k0 k1).bind fun y2=>
 BR (Dop.AZ.mk y2.1.1 t6 0 0 (decide (b4.n=0))) y2.2.1 y2.2.2.1
def Kq.kB (rK:BK.T) (tK:BU.KT):Kq.T:=fun t9 k0 k1 b3 b4=>
 (CR.kr rK b4.a k0 k1).bind fun y2=>
 (CR.kr rK b4.b y2.2.1 y2.2.2.1).bind fun y3=>
 (BQ.k t9 y2.1.1.n y3.1.1.n ((-1)) 0 [] y3.2.1 y3.2.2.1).bind fun y4=>
 BR (Dop.AZ.mk y4.1.1 1 0 0 false) y4.2.1 y4.2.2.1
def Ks.kB (rK:BK.T) (tK:BU.KT):Ks.T:=fun t1 k0 k1 b3 b4=>
 (BU.kr rK b4.a k0 k1).bind fun y2=>
 ck ((0:Int)≤0∧(0:Int)≤1∧1≤I b4.text.length)<|
 (Ag.k y2.1.1 (List.drop (Int.toNat 0) (List.take (Int.toNat 1) b4.text)) t1 (decide (b4.kind=13)) y2.2.1 y2.2.2.1).bind Bp
def Kt.kB (rK:BK.T) (tK:BU.KT):Kt.T:=fun t1 t36 k0 k1 b3 b4=>
 let A2:=C0.k b4.AW t1 k0 k1
 let A1:=CR.kr rK b4.a k0 k1
 ci (t36=6) (A1.bind fun y3=>
 (CR.kr rK b4.b y3.2.1 y3.2.2.1).bind fun y4=>
 (CR.kr rK b4.c y4.2.1 y4.2.2.1).bind fun y5=>
 (Dz.k y3.1.1 y4.1.1 y5.1.1 t1 y5.2.1 y5.2.2.1).bind Bp)<|
 ci (t36=7) (A1.bind fun y4=>
 (CR.kr rK b4.b y4.2.1 y4.2.2.1).bind fun y5=>
 ci (!(CK.e y5.2.1=0)) ((Ac.k 8 t1 y5.2.1 y5.2.2.1).bind Bp)<|
 (Ch.k y4.1.1.At y5.2.1 y5.2.2.1).bind fun y7=>
 ci (!(y7.1.1=4)) ((Ac.k 8 t1 y7.2.1 y7.2.2.1).bind Bp)<|
 (Dc.k y5.1.1.At y7.2.1 y7.2.2.1).bind fun y9=>
 ci (!y9.1.1) ((Ac.k 8 t1 y9.2.1 y9.2.2.1).bind Bp)<|
 (Be.k ([43]:List UInt8) y4.1.1 y5.1.1 t1 y9.2.1 y9.2.2.1).bind fun y11=>
 (IF.k y11.1.1 t1 y11.2.1 y11.2.2.1).bind Bp)<|
 ci (t36=8) ((KR.kr rK b4 t1 k0 k1).bind Bp)<|
 ci (t36=9) ((Dk.kr rK b4 t1 k0 k1).bind Bp)<|
 ci (t36=10) (A2.bind fun y7=>
 (CR.kr rK b4.a y7.2.1 y7.2.2.1).bind fun y8=>
 (BE.k y8.1.1 y7.1.1 t1 true y8.2.1 y8.2.2.1).bind fun y9=>
 BR (Dop.AZ.mk y9.1.1 y7.1.1 0 0 false) y9.2.1 y9.2.2.1)<|
 ci (t36=11) (A2.bind fun y8=>
 (BW.k y8.1.1 y8.2.2.1).bind fun y9=>
 ci (!y9.1.2.1) ((Ac.k 8 t1 y8.2.1 y9.2.1).bind Bp)<|
 (EP.k y9.1.1 y8.2.1 y9.2.1).bind fun y11=>
 BR (Dop.AZ.mk y11.1.1 2 0 0 false) y11.2.1 y11.2.2.1)<|
 ci (t36=14) ((BQ.k 13 ((-1)) ((-1)) ((-1)) 0 [] k0 k1).bind fun y9=>
 BR (Dop.AZ.mk y9.1.1 1 0 0 false) y9.2.1 y9.2.2.1)<|
 A1.bind fun y9=>
 (BQ.k 14 y9.1.1.n ((-1)) ((-1)) 0 [] y9.2.1 y9.2.2.1).bind fun y10=>
 BR (Dop.AZ.mk y10.1.1 1 0 0 false) y10.2.1 y10.2.2.1
def BU.kS (rK:BK.T) (tK:BU.KT):BU.KT:=(OH.kB rK tK,Kq.kB rK tK,Ks.kB rK tK,Kt.kB rK tK,())
def BU.kL (rK:BK.T) (n:Nat):BU.KT:=Eu (BU.kS rK) n
def BU.k0 (rK:BK.T) (tK:BU.KT) (t1:Int) (k0:CK) (k1:CT):R2 Dop.AZ CK CT:=
 let A1:=Dop.AZ.mk 0 0 0 0 false
 ci (!(k0.e=0)) (BR (Dop.AZ.mk (-1) 1 0 0 false) k0 k1)<|
 (Md.k t1 k0 k1).bind fun y3=>
 let z1:R2 Dop.AZ CK CT:=
 ci (y3.1.1.text=(124:UInt8)::(124:UInt8)::[]) (tK.2.1 11 y3.2.1 y3.2.2.1 A1 y3.1.1)<|
 tK.2.1 10 y3.2.1 y3.2.2.1 A1 y3.1.1
 ci (y3.1.1.kind=1) (ci (2147483648≤y3.1.1.n) (tK.1 2 y3.2.1 y3.2.2.1 A1 y3.1.1)<|
 tK.1 1 y3.2.1 y3.2.2.1 A1 y3.1.1)<|
 ci (y3.1.1.kind=2) (ck ((CK.names (CK.t y3.2.1,(),CK.num y3.2.1,CK.funcs y3.2.1,CK.globals y3.2.1,CK.top y3.2.1,CK.nodes y3.2.1,CK.names y3.2.1,CK.sigs y3.2.1,CK.taken y3.2.1,CK.f y3.2.1,CK.BO y3.2.1,CK.labels y3.2.1,CK.gotos y3.2.1,CK.loops y3.2.1,CK.A8 y3.2.1,CK.GA y3.2.1,CK.e y3.2.1,CK.when y3.2.1,())).length<9223372036854775807)<|
 ci (!(CQ y3.1.1.text (CK.names (CK.t y3.2.1,(),CK.num y3.2.1,CK.funcs y3.2.1,CK.globals y3.2.1,CK.top y3.2.1,CK.nodes y3.2.1,CK.names y3.2.1,CK.sigs y3.2.1,CK.taken y3.2.1,CK.f y3.2.1,CK.BO y3.2.1,CK.labels y3.2.1,CK.gotos y3.2.1,CK.loops y3.2.1,CK.A8 y3.2.1,CK.GA y3.2.1,CK.e y3.2.1,CK.when y3.2.1,()))).isSome) ((Ac.k 7 t1 y3.2.1 y3.2.2.1).bind Bp)<|
 ci (((CQ y3.1.1.text (CK.names (CK.t y3.2.1,(),CK.num y3.2.1,CK.funcs y3.2.1,CK.globals y3.2.1,CK.top y3.2.1,CK.nodes y3.2.1,CK.names y3.2.1,CK.sigs y3.2.1,CK.taken y3.2.1,CK.f y3.2.1,CK.BO y3.2.1,CK.labels y3.2.1,CK.gotos y3.2.1,CK.loops y3.2.1,CK.A8 y3.2.1,CK.GA y3.2.1,CK.e y3.2.1,CK.when y3.2.1,()))).getD Dop.d9).kind=2) ((Dy.k (((CQ y3.1.1.text (CK.names (CK.t y3.2.1,(),CK.num y3.2.1,CK.funcs y3.2.1,CK.globals y3.2.1,CK.top y3.2.1,CK.nodes y3.2.1,CK.names y3.2.1,CK.sigs y3.2.1,CK.taken y3.2.1,CK.f y3.2.1,CK.BO y3.2.1,CK.labels y3.2.1,CK.gotos y3.2.1,CK.loops y3.2.1,CK.A8 y3.2.1,CK.GA y3.2.1,CK.e y3.2.1,CK.when y3.2.1,()))).getD Dop.d9).n) y3.2.1 y3.2.2.1).bind fun y8=>
 BR (Dop.AZ.mk y8.1.1 ((CQ y3.1.1.text (CK.names (CK.t y3.2.1,(),CK.num y3.2.1,CK.funcs y3.2.1,CK.globals y3.2.1,CK.top y3.2.1,CK.nodes y3.2.1,CK.names y3.2.1,CK.sigs y3.2.1,CK.taken y3.2.1,CK.f y3.2.1,CK.BO y3.2.1,CK.labels y3.2.1,CK.gotos y3.2.1,CK.loops y3.2.1,CK.A8 y3.2.1,CK.GA y3.2.1,CK.e y3.2.1,CK.when y3.2.1,()))).getD Dop.d9).At 1 ((CQ y3.1.1.text (CK.names (CK.t y3.2.1,(),CK.num y3.2.1,CK.funcs y3.2.1,CK.globals y3.2.1,CK.top y3.2.1,CK.nodes y3.2.1,CK.names y3.2.1,CK.sigs y3.2.1,CK.taken y3.2.1,CK.f y3.2.1,CK.BO y3.2.1,CK.labels y3.2.1,CK.gotos y3.2.1,CK.loops y3.2.1,CK.A8 y3.2.1,CK.GA y3.2.1,CK.e y3.2.1,CK.when y3.2.1,()))).getD Dop.d9).n false) y8.2.1 y8.2.2.1)<|
 (FE.k ((CQ y3.1.1.text (CK.names (CK.t y3.2.1,(),CK.num y3.2.1,CK.funcs y3.2.1,CK.globals y3.2.1,CK.top y3.2.1,CK.nodes y3.2.1,CK.names y3.2.1,CK.sigs y3.2.1,CK.taken y3.2.1,CK.f y3.2.1,CK.BO y3.2.1,CK.labels y3.2.1,CK.gotos y3.2.1,CK.loops y3.2.1,CK.A8 y3.2.1,CK.GA y3.2.1,CK.e y3.2.1,CK.when y3.2.1,()))).getD Dop.d9) y3.2.1 y3.2.2.1).bind fun y8=>
 (Hj.k y8.1.1 (((CQ y3.1.1.text (CK.names (CK.t y3.2.1,(),CK.num y3.2.1,CK.funcs y3.2.1,CK.globals y3.2.1,CK.top y3.2.1,CK.nodes y3.2.1,CK.names y3.2.1,CK.sigs y3.2.1,CK.taken y3.2.1,CK.f y3.2.1,CK.BO y3.2.1,CK.labels y3.2.1,CK.gotos y3.2.1,CK.loops y3.2.1,CK.A8 y3.2.1,CK.GA y3.2.1,CK.e y3.2.1,CK.when y3.2.1,()))).getD Dop.d9).At) y8.2.1 y8.2.2.1).bind Bp)<|
 ci (y3.1.1.kind=3) ((KP.kr rK y3.1.1 t1 y3.2.1 y3.2.2.1).bind Bp)<|
 ci (y3.1.1.kind=4) (ci (y3.1.1.text=(38:UInt8)::(38:UInt8)::[]) (z1)<|
 ci (y3.1.1.text=(124:UInt8)::(124:UInt8)::[]) (z1)<|
 (CR.kr rK y3.1.1.a y3.2.1 y3.2.2.1).bind fun y10=>
 (CR.kr rK y3.1.1.b y10.2.1 y10.2.2.1).bind fun y11=>
 (Be.k y3.1.1.text y10.1.1 y11.1.1 t1 y11.2.1 y11.2.2.1).bind Bp)<|
 ci (y3.1.1.kind=5) ((BU.kr rK y3.1.1.a y3.2.1 y3.2.2.1).bind fun y9=>
 ci (CK.e y9.2.1=0) (ci (y9.1.1.left=0) ((Ac.k 8 t1 y9.2.1 y9.2.2.1).bind Bp)<|
 (DL.k y9.1.1.At y9.2.2.1).bind fun y12=>
 ci (!y12.1.1) ((Ac.k 8 t1 y9.2.1 y12.2.1).bind Bp)<|
 ci (y3.1.1.text=(61:UInt8)::[]) ((CR.kr rK y3.1.1.b y9.2.1 y12.2.1).bind fun y15=>
 (BE.k y15.1.1 y9.1.1.At t1 false y15.2.1 y15.2.2.1).bind fun y16=>
 (DS.k y9.1.1 y16.1.1 y16.2.1 y16.2.2.1).bind fun y17=>
 BR (Dop.AZ.mk y17.1.1 y9.1.1.At 0 0 false) y17.2.1 y17.2.2.1)<|
 ck (P2 y3.1.1.text)<|
 (Ab.kr rK y9.1.1 (Lib.trimSuffix y3.1.1.text ([61]:List UInt8)) t1 false y9.2.1 y12.2.1 y3.1.1).bind Bp)<|
 ci (y3.1.1.text=(61:UInt8)::[]) ((CR.kr rK y3.1.1.b y9.2.1 y9.2.2.1).bind fun y12=>
 (BE.k y12.1.1 y9.1.1.At t1 false y12.2.1 y12.2.2.1).bind fun y13=>
 (DS.k y9.1.1 y13.1.1 y13.2.1 y13.2.2.1).bind fun y14=>
 BR (Dop.AZ.mk y14.1.1 y9.1.1.At 0 0 false) y14.2.1 y14.2.2.1)<|
 ck (P2 y3.1.1.text)<|
 (Ab.kr rK y9.1.1 (Lib.trimSuffix y3.1.1.text ([61]:List UInt8)) t1 false y9.2.1 y9.2.2.1 y3.1.1).bind Bp)<|
 ci (y3.1.1.kind=12) (ci (y3.1.1.kind=12) (tK.2.2.1 t1 y3.2.1 y3.2.2.1 A1 y3.1.1)<|
 tK.2.2.2.1 t1 y3.1.1.kind y3.2.1 y3.2.2.1 A1 y3.1.1)<|
 ci (y3.1.1.kind=13) (tK.2.2.1 t1 y3.2.1 y3.2.2.1 A1 y3.1.1)<|
 tK.2.2.2.1 t1 y3.1.1.kind y3.2.1 y3.2.2.1 A1 y3.1.1
def BU.kf (rK:BK.T) (t1:Int) (k0:CK) (k1:CT):R2 Dop.AZ CK CT:=BU.k0 rK (BU.kL rK 1000000) t1 k0 k1
def KP.kf (rK:BK.T) (t1:Dop.Aa) (t2:Int) (k0:CK) (k1:CT):R2 Dop.AZ CK CT:=
 let A1:=CR.kr rK t1.a k0 k1
 ci (t1.text=(42:UInt8)::[]) (A1.bind fun y3=>
 (IF.k y3.1.1 t2 y3.2.1 y3.2.2.1).bind Bp)<|
 ci (t1.text=(38:UInt8)::[]) ((Md.k t1.a k0 k1).bind fun y4=>
 ci (y4.1.1.kind=2) (ck ((CK.names (CK.t y4.2.1,(),CK.num y4.2.1,CK.funcs y4.2.1,CK.globals y4.2.1,CK.top y4.2.1,CK.nodes y4.2.1,CK.names y4.2.1,CK.sigs y4.2.1,CK.taken y4.2.1,CK.f y4.2.1,CK.BO y4.2.1,CK.labels y4.2.1,CK.gotos y4.2.1,CK.loops y4.2.1,CK.A8 y4.2.1,CK.GA y4.2.1,CK.e y4.2.1,CK.when y4.2.1,())).length<9223372036854775807)<|
 ci (!(CQ y4.1.1.text (CK.names (CK.t y4.2.1,(),CK.num y4.2.1,CK.funcs y4.2.1,CK.globals y4.2.1,CK.top y4.2.1,CK.nodes y4.2.1,CK.names y4.2.1,CK.sigs y4.2.1,CK.taken y4.2.1,CK.f y4.2.1,CK.BO y4.2.1,CK.labels y4.2.1,CK.gotos y4.2.1,CK.loops y4.2.1,CK.A8 y4.2.1,CK.GA y4.2.1,CK.e y4.2.1,CK.when y4.2.1,()))).isSome) ((Ac.k 7 t1.a y4.2.1 y4.2.2.1).bind Bp)<|
 (FE.k ((CQ y4.1.1.text (CK.names (CK.t y4.2.1,(),CK.num y4.2.1,CK.funcs y4.2.1,CK.globals y4.2.1,CK.top y4.2.1,CK.nodes y4.2.1,CK.names y4.2.1,CK.sigs y4.2.1,CK.taken y4.2.1,CK.f y4.2.1,CK.BO y4.2.1,CK.labels y4.2.1,CK.gotos y4.2.1,CK.loops y4.2.1,CK.A8 y4.2.1,CK.GA y4.2.1,CK.e y4.2.1,CK.when y4.2.1,()))).getD Dop.d9) y4.2.1 y4.2.2.1).bind fun y7=>
 (IG.k (((CQ y4.1.1.text (CK.names (CK.t y4.2.1,(),CK.num y4.2.1,CK.funcs y4.2.1,CK.globals y4.2.1,CK.top y4.2.1,CK.nodes y4.2.1,CK.names y4.2.1,CK.sigs y4.2.1,CK.taken y4.2.1,CK.f y4.2.1,CK.BO y4.2.1,CK.labels y4.2.1,CK.gotos y4.2.1,CK.loops y4.2.1,CK.A8 y4.2.1,CK.GA y4.2.1,CK.e y4.2.1,CK.when y4.2.1,()))).getD Dop.d9).At) y7.2.1 y7.2.2.1).bind fun y8=>
 BR (Dop.AZ.mk y7.1.1 y8.1.1 0 0 false) y8.2.1 y8.2.2.1)<|
 (BU.kr rK t1.a y4.2.1 y4.2.2.1).bind fun y6=>
 ci (CK.e y6.2.1=0) (ci (!(y6.1.1.left=2)) ((Ac.k 8 t2 y6.2.1 y6.2.2.1).bind Bp)<|
 (IG.k y6.1.1.At y6.2.1 y6.2.2.1).bind fun y9=>
 BR (Dop.AZ.mk y6.1.1.at_ y9.1.1 0 0 false) y9.2.1 y9.2.2.1)<|
 (IG.k y6.1.1.At y6.2.1 y6.2.2.1).bind fun y8=>
 BR (Dop.AZ.mk y6.1.1.at_ y8.1.1 0 0 false) y8.2.1 y8.2.2.1)<|
 ci (t1.text=(33:UInt8)::[]) (A1.bind fun y5=>
 (G7.k 23 y5.1.1.n y5.2.1 y5.2.2.1).bind fun y6=>
 BR (Dop.AZ.mk y6.1.1 1 0 0 false) y6.2.1 y6.2.2.1)<|
 A1.bind fun y5=>
 ci (CK.e y5.2.1=0) ((Dc.k y5.1.1.At y5.2.1 y5.2.2.1).bind fun y7=>
 ci (!y7.1.1) ((Ac.k 8 t2 y7.2.1 y7.2.2.1).bind Bp)<|
 ci (t1.text=(126:UInt8)::[]) ((G7.k 21 y5.1.1.n y7.2.1 y7.2.2.1).bind fun y10=>
 (GO.k y5.1.1.At y5.1.1.At y10.2.1 y10.2.2.1).bind fun y11=>
 BR (Dop.AZ.mk y10.1.1 y11.1.1 0 0 false) y11.2.1 y11.2.2.1)<|
 (G7.k 20 y5.1.1.n y7.2.1 y7.2.2.1).bind fun y10=>
 (GO.k y5.1.1.At y5.1.1.At y10.2.1 y10.2.2.1).bind fun y11=>
 BR (Dop.AZ.mk y10.1.1 y11.1.1 0 0 false) y11.2.1 y11.2.2.1)<|
 ci (t1.text=(126:UInt8)::[]) ((G7.k 21 y5.1.1.n y5.2.1 y5.2.2.1).bind fun y8=>
 (GO.k y5.1.1.At y5.1.1.At y8.2.1 y8.2.2.1).bind fun y9=>
 BR (Dop.AZ.mk y8.1.1 y9.1.1 0 0 false) y9.2.1 y9.2.2.1)<|
 (G7.k 20 y5.1.1.n y5.2.1 y5.2.2.1).bind fun y8=>
 (GO.k y5.1.1.At y5.1.1.At y8.2.1 y8.2.2.1).bind fun y9=>
 BR (Dop.AZ.mk y8.1.1 y9.1.1 0 0 false) y9.2.1 y9.2.2.1
def CR.kf (rK:BK.T) (n:Int) (k0:CK) (k1:CT):R2 Dop.AZ CK CT:=
 (BU.kr rK n k0 k1).bind fun y2=>
 ci (CK.e y2.2.1=0) ((DL.k y2.1.1.At y2.2.2.1).bind fun y4=>
 ci (!y4.1.1) ((Ac.k 8 n y2.2.1 y4.2.1).bind Bp)<|
 BR y2.1.1 y2.2.1 y4.2.1)<|
 BR y2.1.1 y2.2.1 y2.2.2.1
abbrev GM.T:Type:=List UInt8→Int→Bool→Int→CK→CT→Dop.Aa→Dop.AZ→Dop.AZ→Dop.AZ→Option ((Dop.AZ×Unit)×(CK×CT×(Unit×Unit)×(Dop.Aa×Unit)×Unit))
abbrev Ab.KT:Type:=GM.T×Unit
def GM.kB (rK:BK.T) (tK:Ab.KT):GM.T:=fun t2 t4 t5 t13 k0 k1 b3 b4 b5 b6=>
 ci (!t5) ((Jj.kr rK k0 k1 b3).bind fun y3=>
 (Be.k t2 b6 y3.1.1 t4 y3.2.2.1 y3.2.2.2.1).bind fun y4=>
 (Dc.k y4.1.1.At y4.2.1 y4.2.2.1).bind fun y5=>
 ci y5.1.1 ((Dc.k b4.At y5.2.1 y5.2.2.1).bind fun y7=>
 (BE.k y4.1.1 b4.At t4 y7.1.1 y7.2.1 y7.2.2.1).bind fun y8=>
 (DS.k b6 y8.1.1 y8.2.1 y8.2.2.1).bind fun y9=>
 (EG.k t13 y9.1.1 y9.2.1 y9.2.2.1).bind fun y10=>
 some ((Dop.AZ.mk y10.1.1 b4.At 0 0 false,()),(y10.2.1,(y10.2.2.1,(((),()),((y3.2.2.2.2.1.1,()),()))))))<|
 (BE.k y4.1.1 b4.At t4 false y5.2.1 y5.2.2.1).bind fun y7=>
 (DS.k b6 y7.1.1 y7.2.1 y7.2.2.1).bind fun y8=>
 (EG.k t13 y8.1.1 y8.2.1 y8.2.2.1).bind fun y9=>
 some ((Dop.AZ.mk y9.1.1 b4.At 0 0 false,()),(y9.2.1,(y9.2.2.1,(((),()),((y3.2.2.2.2.1.1,()),()))))))<|
 (IC.k t4 k0 k1).bind fun y3=>
 (G8.k y3.1.1 b6.n y3.2.1 y3.2.2.1).bind fun y4=>
 (Dy.k y3.1.1 y4.2.1 y4.2.2.1).bind fun y5=>
 (Jj.kr rK y5.2.1 y5.2.2.1 b3).bind fun y6=>
 (Be.k t2 (Dop.AZ.mk y5.1.1 b4.At 0 0 false) y6.1.1 t4 y6.2.2.1 y6.2.2.2.1).bind fun y7=>
 (Dc.k y7.1.1.At y7.2.1 y7.2.2.1).bind fun y8=>
 ci y8.1.1 ((Dc.k b4.At y8.2.1 y8.2.2.1).bind fun y10=>
 (BE.k y7.1.1 b4.At t4 y10.1.1 y10.2.1 y10.2.2.1).bind fun y11=>
 (DS.k b6 y11.1.1 y11.2.1 y11.2.2.1).bind fun y12=>
 (Dy.k y3.1.1 y12.2.1 y12.2.2.1).bind fun y13=>
 (EG.k y12.1.1 y13.1.1 y13.2.1 y13.2.2.1).bind fun y14=>
 (EG.k y4.1.1 y14.1.1 y14.2.1 y14.2.2.1).bind fun y15=>
 (EG.k t13 y15.1.1 y15.2.1 y15.2.2.1).bind fun y16=>
 some ((Dop.AZ.mk y16.1.1 b4.At 0 0 false,()),(y16.2.1,(y16.2.2.1,(((),()),((y6.2.2.2.2.1.1,()),()))))))<|
 (BE.k y7.1.1 b4.At t4 false y8.2.1 y8.2.2.1).bind fun y10=>
 (DS.k b6 y10.1.1 y10.2.1 y10.2.2.1).bind fun y11=>
 (Dy.k y3.1.1 y11.2.1 y11.2.2.1).bind fun y12=>
 (EG.k y11.1.1 y12.1.1 y12.2.1 y12.2.2.1).bind fun y13=>
 (EG.k y4.1.1 y13.1.1 y13.2.1 y13.2.2.1).bind fun y14=>
 (EG.k t13 y14.1.1 y14.2.1 y14.2.2.1).bind fun y15=>
 some ((Dop.AZ.mk y15.1.1 b4.At 0 0 false,()),(y15.2.1,(y15.2.2.1,(((),()),((y6.2.2.2.2.1.1,()),())))))
def Ab.kS (rK:BK.T) (tK:Ab.KT):Ab.KT:=(GM.kB rK tK,())
def Ab.kL (rK:BK.T) (n:Nat):Ab.KT:=Eu (Ab.kS rK) n
def Ab.k0 (rK:BK.T) (tK:Ab.KT) (t1:Dop.AZ) (t2:List UInt8) (t4:Int) (t5:Bool) (k0:CK) (k1:CT) (b3:Dop.Aa):Option ((Dop.AZ×Unit)×(CK×CT×(Unit×Unit)×(Dop.Aa×Unit)×Unit)):=
 let A1:=Dop.AZ.mk 0 0 0 0 false
 ci (!(k0.e=0)) ((Ac.k 8 t4 k0 k1).bind fun y3=>
 some ((y3.1.1,()),(y3.2.1,(y3.2.2.1,(((),()),((b3,()),()))))))<|
 ci (t1.left=0) ((Ac.k 8 t4 k0 k1).bind fun y4=>
 some ((y4.1.1,()),(y4.2.1,(y4.2.2.1,(((),()),((b3,()),()))))))<|
 (DL.k t1.At k1).bind fun y4=>
 ci (!y4.1.1) ((Ac.k 8 t4 k0 y4.2.1).bind fun y6=>
 some ((y6.1.1,()),(y6.2.1,(y6.2.2.1,(((),()),((b3,()),()))))))<|
 (Jl.k t1 t4 k0 y4.2.1).bind fun y6=>
 ci (y6.1.2.1.left=1) ((Dy.k y6.1.2.1.at_ y6.2.1 y6.2.2.1).bind fun y8=>
 tK.1 t2 t4 t5 y6.1.1 y8.2.1 y8.2.2.1 b3 t1 A1 (Dop.AZ.mk y8.1.1 y6.1.2.1.At y6.1.2.1.left y6.1.2.1.at_ y6.1.2.1.zero))<|
 tK.1 t2 t4 t5 y6.1.1 y6.2.1 y6.2.2.1 b3 t1 A1 y6.1.2.1
def Ab.kf (rK:BK.T) (t1:Dop.AZ) (t2:List UInt8) (t4:Int) (t5:Bool) (k0:CK) (k1:CT) (b3:Dop.Aa):Option ((Dop.AZ×Unit)×(CK×CT×(Unit×Unit)×(Dop.Aa×Unit)×Unit)):=Ab.k0 rK (Ab.kL rK 1000000) t1 t2 t4 t5 k0 k1 b3
def Jj.kf (rK:BK.T) (k1:CK) (k2:CT) (b3:Dop.Aa):Option ((Dop.AZ×Unit)×((Unit×Unit)×CK×CT×(Dop.Aa×Unit)×Unit)):=
 (CR.kr rK b3.b k1 k2).bind fun y2=>
 some ((y2.1.1,()),(((),()),(y2.2.1,(y2.2.2.1,((b3,()),())))))
def KR.kf (rK:BK.T) (t1:Dop.Aa) (t2:Int) (k0:CK) (k1:CT):R2 Dop.AZ CK CT:=
 (BU.kr rK t1.a k0 k1).bind fun y2=>
 ci (t1.n=1) ((IF.k y2.1.1 t2 y2.2.1 y2.2.2.1).bind fun y4=>
 ci (!(CK.e y4.2.1=0)) ((Ac.k 8 t2 y4.2.1 y4.2.2.1).bind Bp)<|
 (Ch.k y4.1.1.At y4.2.1 y4.2.2.1).bind fun y6=>
 ci (!(y6.1.1=6)) ((Ac.k 8 t2 y6.2.1 y6.2.2.1).bind Bp)<|
 (Dm.k y4.1.1.At t1.text y6.2.2.1).bind fun y8=>
 ci (!y8.1.2.2.1) ((Ac.k 7 t2 y6.2.1 y8.2.1).bind Bp)<|
 (EP.k y8.1.1 y6.2.1 y8.2.1).bind fun y10=>
 (Cd.k 1 y4.1.1.at_ y10.1.1 y10.2.1 y10.2.2.1).bind fun y11=>
 (Hj.k y11.1.1 y8.1.2.1 y11.2.1 y11.2.2.1).bind Bp)<|
 ci (!(CK.e y2.2.1=0)) ((Ac.k 8 t2 y2.2.1 y2.2.2.1).bind Bp)<|
 (Ch.k y2.1.1.At y2.2.1 y2.2.2.1).bind fun y5=>
 ci (!(y5.1.1=6)) ((Ac.k 8 t2 y5.2.1 y5.2.2.1).bind Bp)<|
 (Dm.k y2.1.1.At t1.text y5.2.2.1).bind fun y7=>
 ci (!y7.1.2.2.1) ((Ac.k 7 t2 y5.2.1 y7.2.1).bind Bp)<|
 (EP.k y7.1.1 y5.2.1 y7.2.1).bind fun y9=>
 (Cd.k 1 y2.1.1.at_ y9.1.1 y9.2.1 y9.2.2.1).bind fun y10=>
 (Hj.k y10.1.1 y7.1.2.1 y10.2.1 y10.2.2.1).bind Bp
abbrev OK.T:Type:=List Int→List Int→Int→Int→CK→CT→Dop.Aa→Dop.AZ→Dop.Nb→R2 Dop.AZ CK CT
abbrev Dk.KT:Type:=OK.T×Unit
def OK.kB (rK:BK.T) (tK:Dk.KT):OK.T:=fun t10 t45 t46 t47 k0 k1 b2 b3 b4=>
 let A1:=List.getD t45 t47.toNat 0
 ci (t47<t46) (ck (0≤t47∧t47<I t45.length)<|
 ck (t47.toNat<t45.length)<|
 (CR.kr rK A1 k0 k1).bind fun y3=>
 ck (0≤t47∧t47<I b4.params.length)<|
 (BE.k y3.1.1 (List.getD b4.params t47.toNat 0) A1 false y3.2.1 y3.2.2.1).bind fun y4=>
 ck (Cj none (room 8 (t10.length+(y4.1.1::[]).length)))<|
 ck (Av (t47+1))<|
 tK.1 (t10++y4.1.1::[]) t45 t46 (t47+1) y4.2.1 y4.2.2.1 b2 b3 b4)<|
 (AX.k t10 k0 k1).bind fun y3=>
 (BQ.k 12 y3.1.1 ((-1)) ((-1)) 0 b2.text y3.2.1 y3.2.2.1).bind fun y4=>
 BR (Dop.AZ.mk y4.1.1 b4.BO 0 0 false) y4.2.1 y4.2.2.1
def Dk.kS (rK:BK.T) (tK:Dk.KT):Dk.KT:=(OK.kB rK tK,())
def Dk.kL (rK:BK.T) (n:Nat):Dk.KT:=Eu (Dk.kS rK) n
def Dk.k0 (rK:BK.T) (tK:Dk.KT) (t1:Dop.Aa) (t2:Int) (k0:CK) (k1:CT):R2 Dop.AZ CK CT:=
 let A1:=AL k0.sigs t1.text
 ci (!A1.isSome) ((Ac.k 7 t2 k0 k1).bind Bp)<|
 (F5.k k0.t t1.a).bind fun y3=>
 ci (!(I y3.1.1.length=I (A1.getD Dop.d15).params.length)) ((Ac.k 8 t2 k0 k1).bind Bp)<|
 tK.1 [] y3.1.1 (I y3.1.1.length) 0 k0 k1 t1 (Dop.AZ.mk 0 0 0 0 false) (A1.getD Dop.d15)
def Dk.kf (rK:BK.T) (t1:Dop.Aa) (t2:Int) (k0:CK) (k1:CT):R2 Dop.AZ CK CT:=Dk.k0 rK (Dk.kL rK 1000000) t1 t2 k0 k1
def BK.kS (r:BK.T):BK.T:=(fun x=>BU.kf r x.1.2.1 x.2.1 x.2.2.1,fun x=>KP.kf r x.1.2.1 x.1.2.2.1 x.2.1 x.2.2.1,fun x=>CR.kf r x.1.2.1 x.2.1 x.2.2.1,fun x=>Ab.kf r x.1.2.1 x.1.2.2.1 x.1.2.2.2.2.1 x.1.2.2.2.2.2.1 x.2.1 x.2.2.1 x.2.2.2.2.1.1,fun x=>Jj.kf r x.2.2.1 x.2.2.2.1 x.2.2.2.2.1.1,fun x=>KR.kf r x.1.2.1 x.1.2.2.1 x.2.1 x.2.2.1,fun x=>Dk.kf r x.1.2.1 x.1.2.2.1 x.2.1 x.2.2.1,())
def BK.kR (n:Nat):BK.T:=Eu BK.kS n
def BU.Kc (n:Nat):=kd 194 BU.p (BK.kR n).1
def BU.QZ:=BU.Kc FU
def BU.k:=BU.kr (BK.kR FU)
def KP.Kc (n:Nat):=kd 218 KP.p (BK.kR n).2.1
def CR.Kc (n:Nat):=kd 167 CR.p (BK.kR n).2.2.1
def CR.QZ:=CR.Kc FU
def CR.k:=CR.kr (BK.kR FU)
def Ab.Kc (n:Nat):=kd 220 Ab.p (BK.kR n).2.2.2.1
def Jj.Kc (n:Nat):=kd 222 Jj.p (BK.kR n).2.2.2.2.1
def KR.Kc (n:Nat):=kd 226 KR.p (BK.kR n).2.2.2.2.2.1
def Dk.Kc (n:Nat):=kd 227 Dk.p (BK.kR n).2.2.2.2.2.2.1
def BK.UJ (n:Nat):List (Bw Dop.D4):=[BU.Kc n,KP.Kc n,CR.Kc n,Ab.Kc n,Jj.Kc n,KR.Kc n,Dk.Kc n]
theorem BK.Gg: ∀ n,(BU.Kc n).Holds prog∧(KP.Kc n).Holds prog∧(CR.Kc n).Holds prog∧(Ab.Kc n).Holds prog∧(Jj.Kc n).Holds prog∧(KR.Kc n).Holds prog∧(Dk.Kc n).Holds prog∧True
 | 0=>⟨Ae AJ BU.ok,Ae AJ KP.ok,Ae AJ CR.ok,Ae AJ Ab.ok,Ae AJ Jj.ok,Ae AJ KR.ok,Ae AJ Dk.ok,trivial⟩
 | n+1=>by
  obtain ⟨h0,h1,h2,h3,h4,h5,h6,_⟩:=BK.Gg n
  have hh: ∀ c∈BK.UJ n,c.Holds prog:=(hc h0 (hc h1 (hc h2 (hc h3 (hc h4 (hc h5 (hc h6 hn)))))))
  exact ⟨GG AJ (BA hh (hc Md.Kh (hc EP.Kh (hc De.holds (hc Ac.Kh (hc Dy.Kh (hc FE.Kh (hc Hj.Kh (hc BQ.Kh (hc Be.Kh (hc DL.Kh (hc BE.Kh (hc DS.Kh (hc trimSuffix.holds (hc Ag.Kh (hc Dz.Kh (hc Ch.Kh (hc Dc.Kh (hc IF.Kh (hc C0.Kh (hc BW.J1 hn))))))))))))))))))))) BU.ok (fun t x=>BU.k0 (BK.kR n) t x.1.2.1 x.2.1 x.2.2.1) (fun c=>(fun t6 k0 k1 b3 b4=>c 9 BU.q9 rfl (((),(),(),t6,()),(k0,k1,((),()),(b3,()),(b4,()),())),fun t9 k0 k1 b3 b4=>c 24 BU.WZ rfl (((),(),(),t9,()),(k0,k1,((),()),(b3,()),(b4,()),())),fun t1 k0 k1 b3 b4=>c 40 BU.iE rfl ((t1,(),(),(),()),(k0,k1,((),()),(b3,()),(b4,()),())),fun t1 t36 k0 k1 b3 b4=>c 41 BU.iF rfl ((t1,(),(),(),t36,()),(k0,k1,((),()),(b3,()),(b4,()),())),())) (BU.kS (BK.kR n)) (by kernel_rfl),
   kh AJ (BA hh (hc IF.Kh (hc Md.Kh (hc De.holds (hc Ac.Kh (hc FE.Kh (hc IG.Kh (hc G7.Kh (hc Dc.Kh (hc GO.Kh hn)))))))))) KP.ok (by kernel_rfl),
   kh AJ (BA hh (hc DL.Kh (hc Ac.Kh hn))) CR.ok (by kernel_rfl),
   GG AJ (BA hh (hc DL.Kh (hc Ac.Kh (hc Jl.Kh (hc Dy.Kh (hc Be.Kh (hc Dc.Kh (hc BE.Kh (hc DS.Kh (hc EG.Kh (hc IC.Kh (hc G8.Kh hn)))))))))))) Ab.ok (fun t x=>Ab.k0 (BK.kR n) t x.1.2.1 x.1.2.2.1 x.1.2.2.2.2.1 x.1.2.2.2.2.2.1 x.2.1 x.2.2.1 x.2.2.2.2.1.1) (fun c=>(fun t2 t4 t5 t13 k0 k1 b3 b4 b5 b6=>c 6 Ab.q6 rfl (((),t2,(),t4,t5,(),(),t13,(),()),(k0,k1,((),()),(b3,()),(b4,()),(b5,()),(b6,()),())),())) (Ab.kS (BK.kR n)) (by kernel_rfl),
   kh AJ (BA hh hn) Jj.ok (by kernel_rfl),
   kh AJ (BA hh (hc IF.Kh (hc Ch.Kh (hc Ac.Kh (hc Dm.Kh (hc EP.Kh (hc Cd.Kh (hc Hj.Kh hn)))))))) KR.ok (by kernel_rfl),
   GG AJ (BA hh (hc Ac.Kh (hc F5.Kh (hc BE.Kh (hc AX.Kh (hc BQ.Kh hn)))))) Dk.ok (fun t x=>Dk.k0 (BK.kR n) t x.1.2.1 x.1.2.2.1 x.2.1 x.2.2.1) (fun c=>(fun t10 t45 t46 t47 k0 k1 b2 b3 b4=>c 9 Dk.q9 rfl (((),(),(),(),t10,t45,t46,t47,()),(k0,k1,(b2,()),(b3,()),(b4,()),())),())) (Dk.kS (BK.kR n)) (by kernel_rfl),
   trivial⟩
theorem BU.J1:BU.QZ.Holds prog:=(BK.Gg FU).1
theorem CR.J1:CR.QZ.Holds prog:=(BK.Gg FU).2.2.1
def Lr.k (s:List Dop.Mg):Gh (List Dop.Mg):=
 ck (WC s)<|
 ck (Cj none (room 24 (([]:List Dop.Mg).length+s.length)))<|
 Fx ([]++s)
def Lr.Kc:=kd 162 Lr.p fun x=>Lr.k x.1.1
theorem Lr.Kh:Lr.Kc.Holds prog:=kh AJ hn Lr.ok (by kernel_rfl)
abbrev OD.T:Type:=List UInt8→List Dop.Mg→Bool→(List (List UInt8×Int))→List Dop.Mg→Int→Int→CT→R1 Int CT
abbrev Ki.T:Type:=List UInt8→List Dop.Mg→Int→List Dop.Mg→Int→Int→CT→R1 Int CT
abbrev DK.KT:Type:=OD.T×Ki.T×Unit
def OD.kB (tK:DK.KT):OD.T:=fun t1 t2 t10 t11 t38 t39 t40 k0=>
 let A1:=List.getD t38 t40.toNat Dop.d16
 let A2:=BF t11 A1.name ((AL t11 A1.name).getD (0:Int)+1)
 let z1:R1 Int CT:=
 ck (Av (t40+1))<|
 tK.1 t1 t2 true A2 t38 t39 (t40+1) k0
 ci (t40<t39) (ck (0≤t40∧t40<I t38.length)<|
 ck (Av ((AL t11 A1.name).getD (0:Int)+1))<|
 ci t10 (z1)<|
 ci (A1.name=[]) (z1)<|
 ck (Av (t40+1))<|
 tK.1 t1 t2 (decide (1<(AL A2 A1.name).getD 0)) A2 t38 t39 (t40+1) k0)<|
 ci t10 (Cs 7 k0)<|
 tK.2.1 t1 t2 0 t2 (I t2.length) 0 k0
def Ki.kB (tK:DK.KT):Ki.T:=fun t1 t2 t14 t64 t65 t66 k0=>
 ci (t66<t65) (ck (0≤t66∧t66<I t64.length)<|
 (BW.k ((List.getD t64 t66.toNat Dop.d16).AW) k0).bind fun y3=>
 ci (!y3.1.2.1) (Cs 8 y3.2.1)<|
 ck (Av (t14+y3.1.1))<|
 ck (Av (t66+1))<|
 tK.2.1 t1 t2 (t14+y3.1.1) t64 t65 (t66+1) y3.2.1)<|
 ci (I t2.length=0) (Cs 8 k0)<|
 ci (4096<t14) (Cs 4 k0)<|
 (Lr.k t2).bind fun y5=>
 Cs 0 (CT.Wt k0 (BF k0.fields t1 y5.1.1))
def DK.kS (tK:DK.KT):DK.KT:=(OD.kB tK,Ki.kB tK,())
def DK.kL (n:Nat):DK.KT:=Eu DK.kS n
def DK.k0 (tK:DK.KT) (t1:List UInt8) (t2:List Dop.Mg) (k0:CT):R1 Int CT:=
 (IB.k t1 k0).bind fun y2=>
 ci (!(y2.1.2.1=0)) (Cs y2.1.2.1 y2.2.1)<|
 tK.1 t1 t2 ((AL (CT.fields y2.2.1) t1).isSome) (([]:List (List UInt8×Int))) t2 (I t2.length) 0 y2.2.1
def DK.k (t1:List UInt8) (t2:List Dop.Mg) (k0:CT):R1 Int CT:=DK.k0 (DK.kL 1000000) t1 t2 k0
def DK.Kc:=kd 122 DK.p fun x=>DK.k x.1.2.1 x.1.2.2.1 x.2.1
theorem DK.Kh:DK.Kc.Holds prog:=GG AJ (hc IB.Kh (hc BW.J1 (hc Lr.Kh hn))) DK.ok (fun t x=>DK.k0 t x.1.2.1 x.1.2.2.1 x.2.1) (fun c=>(fun t1 t2 t10 t11 t38 t39 t40 k0=>c 7 DK.q7 rfl (((),t1,t2,t10,t11,t38,t39,t40,()),(k0,())),fun t1 t2 t14 t64 t65 t66 k0=>c 16 DK.eT rfl (((),t1,t2,t14,t64,t65,t66,()),(k0,())),())) DK.kS (by kernel_rfl)
end
end Go.Proofs.Tryz
