/-
 Functions in plain words (what their equations say), and their contracts. Written by a program.
-/
import Derived.Test.YtpjlciengdhjoaaGreatDoorTwQ
import Derived.Test.YtpjlciengdhjoaaGreatDoorMo
set_option maxRecDepth 100000
set_option maxHeartbeats 4000000
namespace Go.Proofs.Tryz
open Go Go.En
noncomputable section
def C3.k (n:Int) (b0_0:Dop.HW) (b0_2:List Int) (b0_3:List Dop.Ey) (b0_4:List Dop.PX) (b0_5:Int) (b0_6:List Dop.AV) (b0_7:List (List (List UInt8×Dop.EB))) (b0_8:List (List UInt8×Dop.Pa)) (b0_10:Dop.Ey) (b0_11 b0_14:Int) (b0_15:List (List (Int×Int))) (b0_16 b0_17 b0_18:Int) (k1:CT):R2 Dop.AV (List Dop.AV×List Dop.Fp×Int×Unit×List Int×List Dop.Ey×List Dop.PX×Int×List Dop.AV×List (List (List UInt8×Dop.EB))×List (List UInt8×Dop.Pa)×Unit×List UInt8×Int×Int×Int×Int×Int×Unit×Unit×Int×List (List (Int×Int))×Int×Int×Int×Unit) CT:=
 let A1:=Dop.AV.mk 0 (-1) (-1) (-1) (-1) [] 0 0 0
 ci (n<0) (Ar A1 (b0_0.nodes,(b0_0.types,(b0_0.top,((),(b0_2,(b0_3,(b0_4,(b0_5,(b0_6,(b0_7,(b0_8,((),(b0_10.name,(b0_10.params,(b0_10.A7,(b0_10.frame,(b0_10.body,(b0_11,((),((),(b0_14,(b0_15,(b0_16,(b0_17,(b0_18,()))))))))))))))))))))))))) k1)<|
 ci (I b0_0.nodes.length<=n) (Ar A1 (b0_0.nodes,(b0_0.types,(b0_0.top,((),(b0_2,(b0_3,(b0_4,(b0_5,(b0_6,(b0_7,(b0_8,((),(b0_10.name,(b0_10.params,(b0_10.A7,(b0_10.frame,(b0_10.body,(b0_11,((),((),(b0_14,(b0_15,(b0_16,(b0_17,(b0_18,()))))))))))))))))))))))))) k1)<|
 ck (0<=n/\n<I b0_0.nodes.length)<|
 Ar (List.getD b0_0.nodes n.toNat Dop.d5) (b0_0.nodes,(b0_0.types,(b0_0.top,((),(b0_2,(b0_3,(b0_4,(b0_5,(b0_6,(b0_7,(b0_8,((),(b0_10.name,(b0_10.params,(b0_10.A7,(b0_10.frame,(b0_10.body,(b0_11,((),((),(b0_14,(b0_15,(b0_16,(b0_17,(b0_18,()))))))))))))))))))))))))) k1
def C3.Kc:=kd 32 C3.p fun x=>C3.k x.1.2.1 x.2.1.1 x.2.1.2.2.1 x.2.1.2.2.2.1 x.2.1.2.2.2.2.1 x.2.1.2.2.2.2.2.1 x.2.1.2.2.2.2.2.2.1 x.2.1.2.2.2.2.2.2.2.1 x.2.1.2.2.2.2.2.2.2.2.1 x.2.1.2.2.2.2.2.2.2.2.2.2.1 x.2.1.2.2.2.2.2.2.2.2.2.2.2.1 x.2.1.2.2.2.2.2.2.2.2.2.2.2.2.2.2.1 x.2.1.2.2.2.2.2.2.2.2.2.2.2.2.2.2.2.1 x.2.1.2.2.2.2.2.2.2.2.2.2.2.2.2.2.2.2.1 x.2.1.2.2.2.2.2.2.2.2.2.2.2.2.2.2.2.2.2.1 x.2.1.2.2.2.2.2.2.2.2.2.2.2.2.2.2.2.2.2.2.1 x.2.2.1
theorem C3.Kh:C3.Kc.Holds prog:=kh AJ hn C3.ok (by kernel_rfl)
def Ni.k (n:Int) (b0_0:Dop.HW) (b0_2:List Int) (b0_3:List Dop.Ey) (b0_4:List Dop.PX) (b0_5:Int) (b0_6:List Dop.AV) (b0_8:List (List UInt8×Dop.Pa)) (b0_9:List (List UInt8×Int)) (b0_10:Dop.Ey) (b0_11:Int) (b0_12 b0_13:List (List UInt8×Int)) (b0_14:Int) (b0_15:List (List (Int×Int))) (b0_16 b0_17 b0_18:Int) (k1:CT) (b2:List (List (List UInt8×Dop.EB))):mW Dop.AV (List Dop.AV×List Dop.Fp×Int×Unit×List Int×List Dop.Ey×List Dop.PX×Int×List Dop.AV×Unit×List (List UInt8×Dop.Pa)×List (List UInt8×Int)×List UInt8×Int×Int×Int×Int×Int×List (List UInt8×Int)×List (List UInt8×Int)×Int×List (List (Int×Int))×Int×Int×Int×Unit) CT (List (List (List UInt8×Dop.EB))×Unit):=
 let A1:=Dop.AV.mk 0 (-1) (-1) (-1) (-1) [] 0 0 0
 ci (n<0) (mn A1 (b0_0.nodes,(b0_0.types,(b0_0.top,((),(b0_2,(b0_3,(b0_4,(b0_5,(b0_6,((),(b0_8,(b0_9,(b0_10.name,(b0_10.params,(b0_10.A7,(b0_10.frame,(b0_10.body,(b0_11,(b0_12,(b0_13,(b0_14,(b0_15,(b0_16,(b0_17,(b0_18,()))))))))))))))))))))))))) k1 (b2,()))<|
 ci (I b0_0.nodes.length<=n) (mn A1 (b0_0.nodes,(b0_0.types,(b0_0.top,((),(b0_2,(b0_3,(b0_4,(b0_5,(b0_6,((),(b0_8,(b0_9,(b0_10.name,(b0_10.params,(b0_10.A7,(b0_10.frame,(b0_10.body,(b0_11,(b0_12,(b0_13,(b0_14,(b0_15,(b0_16,(b0_17,(b0_18,()))))))))))))))))))))))))) k1 (b2,()))<|
 ck (0<=n/\n<I b0_0.nodes.length)<|
 mn (List.getD b0_0.nodes n.toNat Dop.d5) (b0_0.nodes,(b0_0.types,(b0_0.top,((),(b0_2,(b0_3,(b0_4,(b0_5,(b0_6,((),(b0_8,(b0_9,(b0_10.name,(b0_10.params,(b0_10.A7,(b0_10.frame,(b0_10.body,(b0_11,(b0_12,(b0_13,(b0_14,(b0_15,(b0_16,(b0_17,(b0_18,()))))))))))))))))))))))))) k1 (b2,())
def Ni.Kc:=kd 32 Ni.p fun x=>Ni.k x.1.2.1 x.2.1.1 x.2.1.2.2.1 x.2.1.2.2.2.1 x.2.1.2.2.2.2.1 x.2.1.2.2.2.2.2.1 x.2.1.2.2.2.2.2.2.1 x.2.1.2.2.2.2.2.2.2.2.1 x.2.1.2.2.2.2.2.2.2.2.2.1 x.2.1.2.2.2.2.2.2.2.2.2.2.1 x.2.1.2.2.2.2.2.2.2.2.2.2.2.1 x.2.1.2.2.2.2.2.2.2.2.2.2.2.2.1 x.2.1.2.2.2.2.2.2.2.2.2.2.2.2.2.1 x.2.1.2.2.2.2.2.2.2.2.2.2.2.2.2.2.1 x.2.1.2.2.2.2.2.2.2.2.2.2.2.2.2.2.2.1 x.2.1.2.2.2.2.2.2.2.2.2.2.2.2.2.2.2.2.1 x.2.1.2.2.2.2.2.2.2.2.2.2.2.2.2.2.2.2.2.1 x.2.1.2.2.2.2.2.2.2.2.2.2.2.2.2.2.2.2.2.2.1 x.2.2.1 x.2.2.2.1.1
theorem Ni.Kh:Ni.Kc.Holds prog:=kh AJ hn Ni.ok (by kernel_rfl)
def Nf.k (k1:CK) (k2:CT):mW Dop.BM (Unit×Unit) CK CT:=
 (E9.k 1 k1 k2).bind fun y1=>
 mn (Dop.BM.mk y1.1.1 1 0 0 false) ((),()) y1.2.1 y1.2.2.1
def Nf.Kc:=kd 152 Nf.p fun x=>Nf.k x.2.2.1 x.2.2.2.1
theorem Nf.Kh:Nf.Kc.Holds prog:=kh AJ (hc E9.Kh hn) Nf.ok (by kernel_rfl)
def Bo.KE:Env Dop.D4:=AU prog 149 tb [D5.Kc,BB.Kc,K3.Kc,Fm.Kc,Nf.Kc,Bt.Kc,Fa.Kc,CS.Kc,Hb.Kc,K4.Kc,JT.Kc,H5.Kc] Bo.p
def Bo.k (t1:Dop.BM) (t2:List UInt8) (t4:Int) (t5:Bool) (k0:CK) (k1:CT):mW Dop.BM CK CT (Unit×Unit):=Bo.KE.Ei 3000 1000000 Bo.p.sp (((),t1,t2,(),t4,t5,()),(k0,k1,((),()),()))
def Bo.Kc:=kd 149 Bo.p fun x=>Bo.k x.1.2.1 x.1.2.2.1 x.1.2.2.2.2.1 x.1.2.2.2.2.2.1 x.2.1 x.2.2.1
theorem Bo.Kh:Bo.Kc.Holds prog:=kh AJ (hc D5.Kh (hc BB.Kh (hc K3.Kh (hc Fm.Kh (hc Nf.Kh (hc Bt.Kh (hc Fa.Kh (hc CS.Kh (hc Hb.Kh (hc K4.Kh (hc JT.Kh (hc H5.Kh hn)))))))))))) Bo.ok (by kernel_rfl)
abbrev A9.kr (r:BG.T) (t1:Int) (k0:CK) (k1:CT):R2 Dop.BM CK CT:=r.1 (((),t1,()),(k0,k1,()))
abbrev Hc.kr (r:BG.T) (t1:Dop.AV) (t2:Int) (k0:CK) (k1:CT):R2 Dop.BM CK CT:=r.2.1 (((),t1,t2,()),(k0,k1,()))
abbrev B1.kr (r:BG.T) (n:Int) (k0:CK) (k1:CT):R2 Dop.BM CK CT:=r.2.2.1 (((),n,()),(k0,k1,()))
abbrev BC.kr (r:BG.T) (t1:Dop.BM) (t2:List UInt8) (t4:Int) (t5:Bool) (k0:CK) (k1:CT) (b3:Dop.AV):Option ((Dop.BM×Unit)×(CK×CT×(Unit×Unit)×(Dop.AV×Unit)×Unit)):=r.2.2.2.1 (((),t1,t2,(),t4,t5,()),(k0,k1,((),()),(b3,()),()))
abbrev Hd.kr (r:BG.T) (t1:Dop.AV) (t2:Int) (k0:CK) (k1:CT):R2 Dop.BM CK CT:=r.2.2.2.2.2.1 (((),t1,t2,()),(k0,k1,()))
abbrev Gc.kr (r:BG.T) (t1:Dop.AV) (t2:Int) (k0:CK) (k1:CT):R2 Dop.BM CK CT:=r.2.2.2.2.2.2.1 (((),t1,t2,()),(k0,k1,()))
abbrev Kz.T:Type:=Int->CK->CT->Dop.BM->Dop.AV->R2 Dop.BM CK CT
abbrev MI.T:Type:=Int->CK->CT->Dop.BM->Dop.AV->R2 Dop.BM CK CT
abbrev MJ.T:Type:=Int->CK->CT->Dop.BM->Dop.AV->R2 Dop.BM CK CT
abbrev MK.T:Type:=Int->Int->CK->CT->Dop.BM->Dop.AV->R2 Dop.BM CK CT
abbrev A9.KT:Type:=Kz.T×MI.T×MJ.T×MK.T×Unit
def Kz.kB (rK:BG.T) (tK:A9.KT):Kz.T:=fun t6 k0 k1 b3 b4=>
 (E9.k b4.n k0 k1).bind fun y1=>
 Ar (Dop.BM.mk y1.1.1 t6 0 0 (decide (b4.n=0))) y1.2.1 y1.2.2.1
def MI.kB (rK:BG.T) (tK:A9.KT):MI.T:=fun t9 k0 k1 b3 b4=>
 (B1.kr rK b4.a k0 k1).bind fun y3=>
 (B1.kr rK b4.b y3.2.1 y3.2.2.1).bind fun y2=>
 (BX.k t9 y3.1.1.n y2.1.1.n ((-1)) 0 [] y2.2.1 y2.2.2.1).bind fun y1=>
 Ar (Dop.BM.mk y1.1.1 1 0 0 false) y1.2.1 y1.2.2.1
def MJ.kB (rK:BG.T) (tK:A9.KT):MJ.T:=fun t1 k0 k1 b3 b4=>
 (A9.kr rK b4.a k0 k1).bind fun y2=>
 ck ((0:Int)<=0/\(0:Int)<=1/\1<=I b4.text.length)<|
 (Bo.k y2.1.1 (List.drop (Int.toNat 0) (List.take (Int.toNat 1) b4.text)) t1 (decide (b4.kind=13)) y2.2.1 y2.2.2.1).bind C8
def MK.kB (rK:BG.T) (tK:A9.KT):MK.T:=fun t1 t36 k0 k1 b3 b4=>
 let A2:=DM.k b4.Cj t1 k0 k1
 let A1:=B1.kr rK b4.a k0 k1
 ci (t36=6) (A1.bind fun y4=>
 (B1.kr rK b4.b y4.2.1 y4.2.2.1).bind fun y3=>
 (B1.kr rK b4.c y3.2.1 y3.2.2.1).bind fun y2=>
 (H4.k y4.1.1 y3.1.1 y2.1.1 t1 y2.2.1 y2.2.2.1).bind C8)<|
 ci (t36=7) (A1.bind fun y6=>
 (B1.kr rK b4.b y6.2.1 y6.2.2.1).bind fun y5=>
 ci (!(CK.e y5.2.1=0)) ((BB.k 8 t1 y5.2.1 y5.2.2.1).bind C8)<|
 (Dg.k y6.1.1.EA y5.2.1 y5.2.2.1).bind fun y4=>
 ci (!(y4.1.1=4)) ((BB.k 8 t1 y4.2.1 y4.2.2.1).bind C8)<|
 (Fa.k y5.1.1.EA y4.2.1 y4.2.2.1).bind fun y3=>
 ci (!y3.1.1) ((BB.k 8 t1 y3.2.1 y3.2.2.1).bind C8)<|
 (Bt.k ([43]:List UInt8) y6.1.1 y5.1.1 t1 y3.2.1 y3.2.2.1).bind fun y2=>
 (JY.k y2.1.1 t1 y2.2.1 y2.2.2.1).bind C8)<|
 ci (t36=8) ((Hd.kr rK b4 t1 k0 k1).bind C8)<|
 ci (t36=9) ((Gc.kr rK b4 t1 k0 k1).bind C8)<|
 ci (t36=10) (A2.bind fun y3=>
 (B1.kr rK b4.a y3.2.1 y3.2.2.1).bind fun y2=>
 (CS.k y2.1.1 y3.1.1 t1 true y2.2.1 y2.2.2.1).bind fun y1=>
 Ar (Dop.BM.mk y1.1.1 y3.1.1 0 0 false) y1.2.1 y1.2.2.1)<|
 ci (t36=11) (A2.bind fun y3=>
 (Bq.k y3.1.1 y3.2.2.1).bind fun y2=>
 ci (!y2.1.2.1) ((BB.k 8 t1 y3.2.1 y2.2.1).bind C8)<|
 (E9.k y2.1.1 y3.2.1 y2.2.1).bind fun y1=>
 Ar (Dop.BM.mk y1.1.1 2 0 0 false) y1.2.1 y1.2.2.1)<|
 ci (t36=14) ((BX.k 13 ((-1)) ((-1)) ((-1)) 0 [] k0 k1).bind fun y1=>
 Ar (Dop.BM.mk y1.1.1 1 0 0 false) y1.2.1 y1.2.2.1)<|
 A1.bind fun y2=>
 (BX.k 14 y2.1.1.n ((-1)) ((-1)) 0 [] y2.2.1 y2.2.2.1).bind fun y1=>
 Ar (Dop.BM.mk y1.1.1 1 0 0 false) y1.2.1 y1.2.2.1
def A9.kS (rK:BG.T) (tK:A9.KT):A9.KT:=(Kz.kB rK tK,MI.kB rK tK,MJ.kB rK tK,MK.kB rK tK,())
def A9.kL (rK:BG.T) (n:Nat):A9.KT:=Bd (A9.kS rK) n
def A9.k0 (rK:BG.T) (tK:A9.KT) (t1:Int) (k0:CK) (k1:CT):R2 Dop.BM CK CT:=
 let A1:=Dop.BM.mk 0 0 0 0 false
 ci (!(k0.e=0)) (Ar (Dop.BM.mk (-1) 1 0 0 false) k0 k1)<|
 (MY.k t1 k0 k1).bind fun y6=>
 let z1:R2 Dop.BM CK CT:=
 ci (y6.1.1.text=(124:UInt8)::(124:UInt8)::[]) (tK.2.1 11 y6.2.1 y6.2.2.1 A1 y6.1.1)<|
 tK.2.1 10 y6.2.1 y6.2.2.1 A1 y6.1.1
 ci (y6.1.1.kind=1) (ci (2147483648<=y6.1.1.n) (tK.1 2 y6.2.1 y6.2.2.1 A1 y6.1.1)<|
 tK.1 1 y6.2.1 y6.2.2.1 A1 y6.1.1)<|
 ci (y6.1.1.kind=2) (ck ((CK.names y6.2.1).length<9223372036854775807)<|
 ci (!(C6 y6.1.1.text (CK.names y6.2.1)).isSome) ((BB.k 7 t1 y6.2.1 y6.2.2.1).bind C8)<|
 ci (((C6 y6.1.1.text (CK.names y6.2.1)).getD Dop.d9).kind=2) ((Fm.k (((C6 y6.1.1.text (CK.names y6.2.1)).getD Dop.d9).n) y6.2.1 y6.2.2.1).bind fun y1=>
 Ar (Dop.BM.mk y1.1.1 ((C6 y6.1.1.text (CK.names y6.2.1)).getD Dop.d9).EA 1 ((C6 y6.1.1.text (CK.names y6.2.1)).getD Dop.d9).n false) y1.2.1 y1.2.2.1)<|
 (HC.k ((C6 y6.1.1.text (CK.names y6.2.1)).getD Dop.d9) y6.2.1 y6.2.2.1).bind fun y2=>
 (JX.k y2.1.1 (((C6 y6.1.1.text (CK.names y6.2.1)).getD Dop.d9).EA) y2.2.1 y2.2.2.1).bind C8)<|
 ci (y6.1.1.kind=3) ((Hc.kr rK y6.1.1 t1 y6.2.1 y6.2.2.1).bind C8)<|
 ci (y6.1.1.kind=4) (ci (y6.1.1.text=(38:UInt8)::(38:UInt8)::[]) (z1)<|
 ci (y6.1.1.text=(124:UInt8)::(124:UInt8)::[]) (z1)<|
 (B1.kr rK y6.1.1.a y6.2.1 y6.2.2.1).bind fun y3=>
 (B1.kr rK y6.1.1.b y3.2.1 y3.2.2.1).bind fun y2=>
 (Bt.k y6.1.1.text y3.1.1 y2.1.1 t1 y2.2.1 y2.2.2.1).bind C8)<|
 ci (y6.1.1.kind=5) ((A9.kr rK y6.1.1.a y6.2.1 y6.2.2.1).bind fun y5=>
 ci (CK.e y5.2.1=0) (ci (y5.1.1.left=0) ((BB.k 8 t1 y5.2.1 y5.2.2.1).bind C8)<|
 (D5.k y5.1.1.EA y5.2.2.1).bind fun y4=>
 ci (!y4.1.1) ((BB.k 8 t1 y5.2.1 y4.2.1).bind C8)<|
 ci (y6.1.1.text=(61:UInt8)::[]) ((B1.kr rK y6.1.1.b y5.2.1 y4.2.1).bind fun y3=>
 (CS.k y3.1.1 y5.1.1.EA t1 false y3.2.1 y3.2.2.1).bind fun y2=>
 (Hb.k y5.1.1 y2.1.1 y2.2.1 y2.2.2.1).bind fun y1=>
 Ar (Dop.BM.mk y1.1.1 y5.1.1.EA 0 0 false) y1.2.1 y1.2.2.1)<|
 ck (V9 y6.1.1.text)<|
 (BC.kr rK y5.1.1 (Lib.trimSuffix y6.1.1.text ([61]:List UInt8)) t1 false y5.2.1 y4.2.1 y6.1.1).bind C8)<|
 ci (y6.1.1.text=(61:UInt8)::[]) ((B1.kr rK y6.1.1.b y5.2.1 y5.2.2.1).bind fun y3=>
 (CS.k y3.1.1 y5.1.1.EA t1 false y3.2.1 y3.2.2.1).bind fun y2=>
 (Hb.k y5.1.1 y2.1.1 y2.2.1 y2.2.2.1).bind fun y1=>
 Ar (Dop.BM.mk y1.1.1 y5.1.1.EA 0 0 false) y1.2.1 y1.2.2.1)<|
 ck (V9 y6.1.1.text)<|
 (BC.kr rK y5.1.1 (Lib.trimSuffix y6.1.1.text ([61]:List UInt8)) t1 false y5.2.1 y5.2.2.1 y6.1.1).bind C8)<|
 ci (y6.1.1.kind=12) (ci (y6.1.1.kind=12) (tK.2.2.1 t1 y6.2.1 y6.2.2.1 A1 y6.1.1)<|
 tK.2.2.2.1 t1 y6.1.1.kind y6.2.1 y6.2.2.1 A1 y6.1.1)<|
 ci (y6.1.1.kind=13) (tK.2.2.1 t1 y6.2.1 y6.2.2.1 A1 y6.1.1)<|
 tK.2.2.2.1 t1 y6.1.1.kind y6.2.1 y6.2.2.1 A1 y6.1.1
def A9.kf (rK:BG.T) (t1:Int) (k0:CK) (k1:CT):R2 Dop.BM CK CT:=A9.k0 rK (A9.kL rK 1000000) t1 k0 k1
def Hc.kf (rK:BG.T) (t1:Dop.AV) (t2:Int) (k0:CK) (k1:CT):R2 Dop.BM CK CT:=(AU (S:=Dop.D4) prog 147 tb (BG.ct rK++[JY.Kc,MY.Kc,Dq.c,BB.Kc,HC.Kc,K1.Kc,K0.Kc,Fa.Kc,Iw.Kc]) Hc.p).Ei 3000 1000000 Hc.p.sp (((),t1,t2,()),(k0,k1,()))
def B1.kf (rK:BG.T) (n:Int) (k0:CK) (k1:CT):R2 Dop.BM CK CT:=
 (A9.kr rK n k0 k1).bind fun y3=>
 ci (CK.e y3.2.1=0) ((D5.k y3.1.1.EA y3.2.2.1).bind fun y2=>
 ci (!y2.1.1) ((BB.k 8 n y3.2.1 y2.2.1).bind C8)<|
 Ar y3.1.1 y3.2.1 y2.2.1)<|
 Ar y3.1.1 y3.2.1 y3.2.2.1
def BC.kf (rK:BG.T) (t1:Dop.BM) (t2:List UInt8) (t4:Int) (t5:Bool) (k0:CK) (k1:CT) (b3:Dop.AV):Option ((Dop.BM×Unit)×(CK×CT×(Unit×Unit)×(Dop.AV×Unit)×Unit)):=(AU (S:=Dop.D4) prog 149 tb (BG.ct rK++[D5.Kc,BB.Kc,K3.Kc,Fm.Kc,Bt.Kc,Fa.Kc,CS.Kc,Hb.Kc,K4.Kc,JT.Kc,H5.Kc]) BC.p).Ei 3000 1000000 BC.p.sp (((),t1,t2,(),t4,t5,()),(k0,k1,((),()),(b3,()),()))
def KI.kf (rK:BG.T) (k1:CK) (k2:CT) (b3:Dop.AV):Option ((Dop.BM×Unit)×((Unit×Unit)×CK×CT×(Dop.AV×Unit)×Unit)):=
 (B1.kr rK b3.b k1 k2).bind fun y1=>
 some ((y1.1.1,()),(((),()),(y1.2.1,(y1.2.2.1,((b3,()),())))))
def Hd.kf (rK:BG.T) (t1:Dop.AV) (t2:Int) (k0:CK) (k1:CT):R2 Dop.BM CK CT:=(AU (S:=Dop.D4) prog 155 tb (BG.ct rK++[JY.Kc,Dg.Kc,BB.Kc,H7.Kc,E9.Kc,FI.Kc,JX.Kc]) Hd.p).Ei 3000 1000000 Hd.p.sp (((),t1,t2,()),(k0,k1,()))
def Gc.kf (rK:BG.T) (t1:Dop.AV) (t2:Int) (k0:CK) (k1:CT):R2 Dop.BM CK CT:=(AU (S:=Dop.D4) prog 156 tb (BG.ct rK++[BB.Kc,Gu.Kc,CS.Kc,Ai.Kc,BX.Kc]) Gc.p).Ei 3000 1000000 Gc.p.sp (((),t1,t2,()),(k0,k1,()))
def BG.kS (r:BG.T):BG.T:=(fun x=>A9.kf r x.1.2.1 x.2.1 x.2.2.1,fun x=>Hc.kf r x.1.2.1 x.1.2.2.1 x.2.1 x.2.2.1,fun x=>B1.kf r x.1.2.1 x.2.1 x.2.2.1,fun x=>BC.kf r x.1.2.1 x.1.2.2.1 x.1.2.2.2.2.1 x.1.2.2.2.2.2.1 x.2.1 x.2.2.1 x.2.2.2.2.1.1,fun x=>KI.kf r x.2.2.1 x.2.2.2.1 x.2.2.2.2.1.1,fun x=>Hd.kf r x.1.2.1 x.1.2.2.1 x.2.1 x.2.2.1,fun x=>Gc.kf r x.1.2.1 x.1.2.2.1 x.2.1 x.2.2.1,())
def BG.kR (n:Nat):BG.T:=Bd BG.kS n
def A9.Kc (n:Nat):=kd 122 A9.p (BG.kR n).1
def A9.JE:=A9.Kc FU
def A9.k:=A9.kr (BG.kR FU)
def Hc.Kc (n:Nat):=kd 147 Hc.p (BG.kR n).2.1
def B1.Kc (n:Nat):=kd 97 B1.p (BG.kR n).2.2.1
def B1.JE:=B1.Kc FU
def B1.k:=B1.kr (BG.kR FU)
def BC.Kc (n:Nat):=kd 149 BC.p (BG.kR n).2.2.2.1
def KI.Kc (n:Nat):=kd 151 KI.p (BG.kR n).2.2.2.2.1
def Hd.Kc (n:Nat):=kd 155 Hd.p (BG.kR n).2.2.2.2.2.1
def Gc.Kc (n:Nat):=kd 156 Gc.p (BG.kR n).2.2.2.2.2.2.1
def BG.PY (n:Nat):List (BU Dop.D4):=[A9.Kc n,Hc.Kc n,B1.Kc n,BC.Kc n,KI.Kc n,Hd.Kc n,Gc.Kc n]
theorem BG.Dx: ∀ n,(A9.Kc n).Holds prog/\(Hc.Kc n).Holds prog/\(B1.Kc n).Holds prog/\(BC.Kc n).Holds prog/\(KI.Kc n).Holds prog/\(Hd.Kc n).Holds prog/\(Gc.Kc n).Holds prog/\True
 | 0=>⟨AR AJ A9.ok,AR AJ Hc.ok,AR AJ B1.ok,AR AJ BC.ok,AR AJ KI.ok,AR AJ Hd.ok,AR AJ Gc.ok,trivial⟩
 | n+1=>by
  obtain ⟨h0,h1,h2,h3,h4,h5,h6,_⟩:=BG.Dx n
  have hh: ∀ c∈BG.PY n,c.Holds prog:=(hc h0 (hc h1 (hc h2 (hc h3 (hc h4 (hc h5 (hc h6 hn)))))))
  exact ⟨GB AJ (Ad hh (hc MY.Kh (hc E9.Kh (hc Dq.holds (hc BB.Kh (hc Fm.Kh (hc HC.Kh (hc JX.Kh (hc BX.Kh (hc Bt.Kh (hc D5.Kh (hc CS.Kh (hc Hb.Kh (hc trimSuffix.holds (hc Bo.Kh (hc H4.Kh (hc Dg.Kh (hc Fa.Kh (hc JY.Kh (hc DM.Kh (hc Bq.Hi hn))))))))))))))))))))) A9.ok (fun t x=>A9.k0 (BG.kR n) t x.1.2.1 x.2.1 x.2.2.1) (fun c=>(fun t6 k0 k1 b3 b4=>c 9 A9.q9 rfl (((),(),(),t6,()),(k0,k1,((),()),(b3,()),(b4,()),())),fun t9 k0 k1 b3 b4=>c 24 A9.ZH rfl (((),(),(),t9,()),(k0,k1,((),()),(b3,()),(b4,()),())),fun t1 k0 k1 b3 b4=>c 40 A9.pE rfl ((t1,(),(),(),()),(k0,k1,((),()),(b3,()),(b4,()),())),fun t1 t36 k0 k1 b3 b4=>c 41 A9.pF rfl ((t1,(),(),(),t36,()),(k0,k1,((),()),(b3,()),(b4,()),())),())) (A9.kS (BG.kR n)) (by kernel_rfl),
   kh AJ (Ad hh (hc JY.Kh (hc MY.Kh (hc Dq.holds (hc BB.Kh (hc HC.Kh (hc K1.Kh (hc K0.Kh (hc Fa.Kh (hc Iw.Kh hn)))))))))) Hc.ok (by kernel_rfl),
   kh AJ (Ad hh (hc D5.Kh (hc BB.Kh hn))) B1.ok (by kernel_rfl),
   kh AJ (Ad hh (hc D5.Kh (hc BB.Kh (hc K3.Kh (hc Fm.Kh (hc Bt.Kh (hc Fa.Kh (hc CS.Kh (hc Hb.Kh (hc K4.Kh (hc JT.Kh (hc H5.Kh hn)))))))))))) BC.ok (by kernel_rfl),
   kh AJ (Ad hh hn) KI.ok (by kernel_rfl),
   kh AJ (Ad hh (hc JY.Kh (hc Dg.Kh (hc BB.Kh (hc H7.Kh (hc E9.Kh (hc FI.Kh (hc JX.Kh hn)))))))) Hd.ok (by kernel_rfl),
   kh AJ (Ad hh (hc BB.Kh (hc Gu.Kh (hc CS.Kh (hc Ai.Kh (hc BX.Kh hn)))))) Gc.ok (by kernel_rfl),
   trivial⟩
theorem A9.Hi:A9.JE.Holds prog:=(BG.Dx FU).1
theorem B1.Hi:B1.JE.Holds prog:=(BG.Dx FU).2.2.1
def Na.k (s:List Dop.Wl):C9 (List Dop.Wl):=
 ck (Yu s)<|
 ck (Dc none (room 24 (([]:List Dop.Wl).length+s.length)))<|
 Aw ([]++s)
def Na.Kc:=kd 92 Na.p fun x=>Na.k x.1.1
theorem Na.Kh:Na.Kc.Holds prog:=kh AJ hn Na.ok (by kernel_rfl)
def G9.KE:Env Dop.D4:=AU prog 49 tb [JS.Kc,Bq.JE,Na.Kc] G9.p
def G9.k (t1:List UInt8) (t2:List Dop.Wl) (k0:CT):R1 Int CT:=G9.KE.Ei 3000 1000000 G9.p.sp (((),t1,t2,()),(k0,()))
def G9.Kc:=kd 49 G9.p fun x=>G9.k x.1.2.1 x.1.2.2.1 x.2.1
theorem G9.Kh:G9.Kc.Holds prog:=kh AJ (hc JS.Kh (hc Bq.Hi (hc Na.Kh hn))) G9.ok (by kernel_rfl)
end
end Go.Proofs.Tryz
