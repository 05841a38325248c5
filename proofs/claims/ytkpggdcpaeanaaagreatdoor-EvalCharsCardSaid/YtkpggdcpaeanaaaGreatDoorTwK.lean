/-
 Functions in plain words (what their equations say), and their contracts. Written by a program.
-/
import Derived.Test.YtkpggdcpaeanaaaGreatDoorTwD
import Derived.Test.YtkpggdcpaeanaaaGreatDoorMm
set_option linter.all false
set_option maxRecDepth 100000
set_option maxHeartbeats 4000000
namespace Go.Proofs.Tryz
open Go Go.En
noncomputable section
def Ep.k (n:Int) (k0:CT):Vj Dop.HH Bool CT:=
 let A1:=OZ (Dop.HH.mk 0 0 0 []) false k0
 ci (n<0) A1<|
 ci (I k0.l.length<=n) A1<|
 ck (0<=n/\n<I k0.l.length)<|
 ck (n.toNat<k0.l.length)<|
 OZ (List.getD k0.l n.toNat Dop.d6) true k0
def Ep.Kc:=kd 163 Ep.p fun x=>Ep.k x.1.2.1 x.2.1
theorem Ep.Kh:Ep.Kc.Holds prog:=kh AH hn Ep.ok (by kernel_rfl)
def Iw.k (x:Dop.HH) (k0:CT):Vj Int Int CT:=
 (Dp.k k0.l x).bind fun y2=>
 ci (0<=y2.1.1) (OZ y2.1.1 0 k0)<|
 ci (I k0.l.length=256) (OZ 0 4 k0)<|
 ck (Cu none (room 40 (k0.l.length+(x::[]).length)))<|
 ck (Az (I (k0.l++x::[]).length -1))<|
 OZ (I (k0.l++x::[]).length -1) 0 (CT.mW k0 (k0.l++x::[]))
def Iw.Kc:=kd 193 Iw.p fun x=>Iw.k x.1.2.1 x.2.1
theorem Iw.Kh:Iw.Kc.Holds prog:=kh AH (hc Dp.Kh hn) Iw.ok (by kernel_rfl)
def Is.k (elem:Int) (k0:CT):Vj Int Int CT:=
 (Ep.k elem k0).bind fun y2=>
 ci (!y2.1.2.1) (OZ 0 1 y2.2.1)<|
 (Iw.k (Dop.HH.mk 4 elem 0 []) y2.2.1).bind lS
def Is.Kc:=kd 159 Is.p fun x=>Is.k x.1.2.1 x.2.1
theorem Is.Kh:Is.Kc.Holds prog:=kh AH (hc Ep.Kh (hc Iw.Kh hn)) Is.ok (by kernel_rfl)
abbrev BZ.kr (r:Fw.T) (t1:Int) (k0:CT):Vj Int Bool CT:=r.1 (((),t1,()),(k0,()))
abbrev LU.T:Type:=Int->List Dop.QJ->Int->Int->CT->Vj Int Bool CT
abbrev BZ.KT:Type:=LU.T×Unit
def LU.kB (rK:Fw.T) (tK:BZ.KT):LU.T:=fun t10 t54 t55 t56 k0=>
 ci (t56<t55) (ck (0<=t56/\t56<I t54.length)<|
 (BZ.kr rK ((List.getD t54 t56.toNat Dop.d16).Af) k0).bind fun y3=>
 ck (Az (t10+y3.1.1))<|
 ck (Az (t56+1))<|
 tK.1 (t10+y3.1.1) t54 t55 (t56+1) y3.2.1)<|
 OZ t10 (decide (0<t10)) k0
def BZ.kS (rK:Fw.T) (tK:BZ.KT):BZ.KT:=(LU.kB rK tK,())
def BZ.kL (rK:Fw.T) (n:Nat):BZ.KT:=Cw (BZ.kS rK) n
def BZ.k0 (rK:Fw.T) (tK:BZ.KT) (t1:Int) (k0:CT):Vj Int Bool CT:=
 (Ep.k t1 k0).bind fun y2=>
 ci (!y2.1.2.1) (OZ 0 false y2.2.1)<|
 ci (y2.1.1.kind=0) (OZ 0 false y2.2.1)<|
 ci (y2.1.1.kind=5) ((BZ.kr rK y2.1.1.elem y2.2.1).bind fun y6=>
 ck (Az (y6.1.1*y2.1.1.n))<|
 OZ (y6.1.1*y2.1.1.n) true y6.2.1)<|
 ci (y2.1.1.kind=6) (tK.1 0 ((AN (CT.fields y2.2.1) y2.1.1.name).getD []) (I ((AN (CT.fields y2.2.1) y2.1.1.name).getD []).length) 0 y2.2.1)<|
 OZ 1 true y2.2.1
def BZ.kf (rK:Fw.T) (t1:Int) (k0:CT):Vj Int Bool CT:=BZ.k0 rK (BZ.kL rK 1000000) t1 k0
def Fw.kS (r:Fw.T):Fw.T:=(fun x=>BZ.kf r x.1.2.1 x.2.1,())
def Fw.kR (n:Nat):Fw.T:=Cw Fw.kS n
def BZ.Kc (n:Nat):=kd 124 BZ.p (Fw.kR n).1
def BZ.Nn:=BZ.Kc FU
def BZ.k:=BZ.kr (Fw.kR FU)
def Fw.Ry (n:Nat):List (Bw Dop.D4):=[BZ.Kc n]
theorem Fw.Et: ∀ n,(BZ.Kc n).Holds prog/\True
 | 0=>⟨AO AH BZ.ok,trivial⟩
 | n+1=>by
  obtain ⟨h0,_⟩:=Fw.Et n
  have hh: ∀ c∈Fw.Ry n,c.Holds prog:=(hc h0 hn)
  exact ⟨F4 AH (Ab hh (hc Ep.Kh hn)) BZ.ok (fun t x=>BZ.k0 (Fw.kR n) t x.1.2.1 x.2.1) (fun c=>(fun t10 t54 t55 t56 k0=>c 10 BZ.VW rfl (((),t10,t54,t55,t56,()),(k0,())),())) (BZ.kS (Fw.kR n)) (by kernel_rfl),
   trivial⟩
theorem BZ.IN:BZ.Nn.Holds prog:=(Fw.Et FU).1
def KM.k (elem n:Int) (k0:CT):Vj Int Int CT:=
 (Ep.k elem k0).bind fun y2=>
 ci (!y2.1.2.1) (OZ 0 1 y2.2.1)<|
 (BZ.k elem y2.2.1).bind fun y4=>
 ci (!y4.1.2.1) (OZ 0 8 y4.2.1)<|
 ci (n<1) (OZ 0 4 y4.2.1)<|
 ci (1024<n) (OZ 0 4 y4.2.1)<|
 ck (Az (y4.1.1*n))<|
 ci (4096<y4.1.1*n) (OZ 0 4 y4.2.1)<|
 (Iw.k (Dop.HH.mk 5 elem n []) y4.2.1).bind lS
def KM.Kc:=kd 160 KM.p fun x=>KM.k x.1.2.1 x.1.2.2.1 x.2.1
theorem KM.Kh:KM.Kc.Holds prog:=kh AH (hc Ep.Kh (hc BZ.IN (hc Iw.Kh hn))) KM.ok (by kernel_rfl)
def Iu.k (name:List UInt8) (k0:CT):Vj Int Int CT:=
 ci (name=[]) (OZ 0 1 k0)<|
 (Iw.k (Dop.HH.mk 6 0 0 name) k0).bind lS
def Iu.Kc:=kd 161 Iu.p fun x=>Iu.k x.1.2.1 x.2.1
theorem Iu.Kh:Iu.Kc.Holds prog:=kh AH (hc Iw.Kh hn) Iu.ok (by kernel_rfl)
def DX.k (n:Int) (k0:CT):R1 Bool CT:=
 (Ep.k n k0).bind fun y2=>
 ci (1<=y2.1.1.kind) (CR (decide (y2.1.1.kind<=4)) y2.2.1)<|
 CR false y2.2.1
def DX.Kc:=kd 128 DX.p fun x=>DX.k x.1.2.1 x.2.1
theorem DX.Kh:DX.Kc.Holds prog:=kh AH (hc Ep.Kh hn) DX.ok (by kernel_rfl)
def Hf.KE:Env Dop.D4:=Ac prog 248 tb [Ep.Kc,BZ.Nn] Hf.p
def Hf.k (n:Int) (name:List UInt8) (k0:CT):mc Int Int Bool CT:=Hf.KE.Ez 3000 1000000 Hf.p.sp (((),n,name,()),(k0,()))
def Hf.Kc:=kd 248 Hf.p fun x=>Hf.k x.1.2.1 x.1.2.2.1 x.2.1
theorem Hf.Kh:Hf.Kc.Holds prog:=kh AH (hc Ep.Kh (hc BZ.IN hn)) Hf.ok (by kernel_rfl)
def Np.k (n:Int) (k0:CK) (k1:CT):R2 Dop.AU CK CT:=
 let A1:=Ah (Dop.AU.mk 0 (-1) (-1) (-1) (-1) [] 0 0 0) k0 k1
 ci (n<0) A1<|
 ci (I k0.t.nodes.length<=n) A1<|
 ck (0<=n/\n<I k0.t.nodes.length)<|
 Ah (List.getD k0.t.nodes n.toNat Dop.d5) k0 k1
def Np.Kc:=kd 74 Np.p fun x=>Np.k x.1.2.1 x.2.1 x.2.2.1
theorem Np.Kh:Np.Kc.Holds prog:=kh AH hn Np.ok (by kernel_rfl)
def Au.k (e n:Int) (k0:CK) (k1:CT):R2 Dop.Ao CK CT:=
 let A1:=Dop.Ao.mk (-1) 1 0 0 false
 ci (k0.e=0) ((Np.k n k0 k1).bind fun y3=>
 Ah A1 (CK.FR (CK.Yj y3.2.1 e) y3.1.1.at_) y3.2.2.1)<|
 Ah A1 k0 k1
def Au.Kc:=kd 123 Au.p fun x=>Au.k x.1.2.1 x.1.2.2.1 x.2.1 x.2.2.1
theorem Au.Kh:Au.Kc.Holds prog:=kh AH (hc Np.Kh hn) Au.ok (by kernel_rfl)
def DW.k (t:Int) (k0:CK) (k1:CT):R2 Int CK CT:=
 (Ep.k t k1).bind fun y2=>
 Ah y2.1.1.kind k0 y2.2.1
def DW.Kc:=kd 127 DW.p fun x=>DW.k x.1.2.1 x.2.1 x.2.2.1
theorem DW.Kh:DW.Kc.Holds prog:=kh AH (hc Ep.Kh hn) DW.ok (by kernel_rfl)
def FL.k (t:Int) (k0:CK) (k1:CT):R2 Bool CK CT:=
 (DW.k t k0 k1).bind fun y2=>
 ci (y2.1.1=1) (Ah true y2.2.1 y2.2.2.1)<|
 ci (y2.1.1=2) (Ah true y2.2.1 y2.2.2.1)<|
 Ah (decide (y2.1.1=3)) y2.2.1 y2.2.2.1
def FL.Kc:=kd 125 FL.p fun x=>FL.k x.1.2.1 x.2.1 x.2.2.1
theorem FL.Kh:FL.Kc.Holds prog:=kh AH (hc DW.Kh hn) FL.ok (by kernel_rfl)
def F0.k (t:Int) (k0:CK) (k1:CT):kJ Int Int CK CT:=
 (Ep.k t k1).bind fun y2=>
 (BZ.k y2.1.1.elem y2.2.1).bind fun y3=>
 ci (!y3.1.2.1) (ke y2.1.1.elem 1 k0 y3.2.1)<|
 ke y2.1.1.elem y3.1.1 k0 y3.2.1
def F0.Kc:=kd 228 F0.p fun x=>F0.k x.1.2.1 x.2.1 x.2.2.1
theorem F0.Kh:F0.Kc.Holds prog:=kh AH (hc Ep.Kh (hc BZ.IN hn)) F0.ok (by kernel_rfl)
def Ji.k (t:Int) (k0:CK) (k1:CT):R2 Bool CK CT:=
 (DW.k t k0 k1).bind fun y2=>
 ci (y2.1.1=2) (Ah true y2.2.1 y2.2.2.1)<|
 Ah (decide (y2.1.1=4)) y2.2.1 y2.2.2.1
def Ji.Kc:=kd 242 Ji.p fun x=>Ji.k x.1.2.1 x.2.1 x.2.2.1
theorem Ji.Kh:Ji.Kc.Holds prog:=kh AH (hc DW.Kh hn) Ji.ok (by kernel_rfl)
def Gq.k (a b:Int) (k0:CK) (k1:CT):R2 Int CK CT:=
 (DW.k a k0 k1).bind fun y2=>
 ci (y2.1.1=2) (Ah 2 y2.2.1 y2.2.2.1)<|
 (DW.k b y2.2.1 y2.2.2.1).bind fun y4=>
 ci (y4.1.1=2) (Ah 2 y4.2.1 y4.2.2.1)<|
 Ah 1 y4.2.1 y4.2.2.1
def Gq.Kc:=kd 240 Gq.p fun x=>Gq.k x.1.2.1 x.1.2.2.1 x.2.1 x.2.2.1
theorem Gq.Kh:Gq.Kc.Holds prog:=kh AH (hc DW.Kh hn) Gq.ok (by kernel_rfl)
def BU.k (kind a b d n:Int) (text:List UInt8) (k0:CK) (k1:CT):R2 Int CK CT:=
 ck (Cu none (room 80 (k0.nodes.length+(Dop.AU.mk kind a b d (-1) text n 0 0::[]).length)))<|
 ck (Az (I (k0.nodes++Dop.AU.mk kind a b d (-1) text n 0 0::[]).length -1))<|
 Ah (I (k0.nodes++Dop.AU.mk kind a b d (-1) text n 0 0::[]).length -1) (CK.EY k0 (k0.nodes++Dop.AU.mk kind a b d (-1) text n 0 0::[])) k1
def BU.Kc:=kd 132 BU.p fun x=>BU.k x.1.2.1 x.1.2.2.1 x.1.2.2.2.1 x.1.2.2.2.2.1 x.1.2.2.2.2.2.1 x.1.2.2.2.2.2.2.1 x.2.1 x.2.2.1
theorem BU.Kh:BU.Kc.Holds prog:=kh AH hn BU.ok (by kernel_rfl)
def EC.k (n:Int):Ei Int:=
 let A1:=IntKind.i32.wrap (IntKind.u32.wrap n)
 ck (Az A1)<|
 CO A1
def EC.Kc:=kd 126 EC.p fun x=>EC.k x.1.1
theorem EC.Kh:EC.Kc.Holds prog:=kh AH hn EC.ok (by kernel_rfl)
def ED.k (n:Int) (k0:CK) (k1:CT):R2 Int CK CT:=
 (EC.k n).bind fun y2=>
 (BU.k 1 ((-1)) ((-1)) ((-1)) y2.1.1 [] k0 k1).bind Bp
def ED.Kc:=kd 165 ED.p fun x=>ED.k x.1.2.1 x.2.1 x.2.2.1
theorem ED.Kh:ED.Kc.Holds prog:=kh AH (hc EC.Kh (hc BU.Kh hn)) ED.ok (by kernel_rfl)
def FY.k (n:Int) (k0:CK) (k1:CT):R2 Int CK CT:=
 (BU.k 2 ((-1)) ((-1)) ((-1)) n [] k0 k1).bind Bp
def FY.Kc:=kd 134 FY.p fun x=>FY.k x.1.2.1 x.2.1 x.2.2.1
theorem FY.Kh:FY.Kc.Holds prog:=kh AH (hc BU.Kh hn) FY.ok (by kernel_rfl)
def Iv.k (n:Int) (k0:CK) (k1:CT):R2 Int CK CT:=
 let A1:=k0.f.An+(1:Int) -1
 ci (k0.f.An=4096) ((Au.k 4 n k0 k1).bind fun y3=>
 Ah 0 y3.2.1 y3.2.2.1)<|
 ck (Az (k0.f.An+1))<|
 ck (Az A1)<|
 Ah A1 (CK.eT k0 (Dop.Eh.mk k0.f.name k0.f.params (k0.f.An+1) k0.f.frame k0.f.body)) k1
def Iv.Kc:=kd 164 Iv.p fun x=>Iv.k x.1.2.1 x.2.1 x.2.2.1
theorem Iv.Kh:Iv.Kc.Holds prog:=kh AH (hc Au.Kh hn) Iv.ok (by kernel_rfl)
def I0.k (t:Int) (k0:CK) (k1:CT):R2 Int CK CT:=
 (Is.k t k1).bind fun y2=>
 Ah y2.1.1 k0 y2.2.1
def I0.Kc:=kd 238 I0.p fun x=>I0.k x.1.2.1 x.2.1 x.2.2.1
theorem I0.Kh:I0.Kc.Holds prog:=kh AH (hc Is.Kh hn) I0.ok (by kernel_rfl)
def KN.k (a:Int) (k0:CK) (k1:CT):R2 Int CK CT:=
 (BU.k 4 a ((-1)) ((-1)) 0 [] k0 k1).bind Bp
def KN.Kc:=kd 239 KN.p fun x=>KN.k x.1.2.1 x.2.1 x.2.2.1
theorem KN.Kh:KN.Kc.Holds prog:=kh AH (hc BU.Kh hn) KN.ok (by kernel_rfl)
def Iy.k (a t:Int) (k0:CK) (k1:CT):R2 Dop.Ao CK CT:=
 (DW.k t k0 k1).bind fun y2=>
 ci (y2.1.1=5) ((F0.k t y2.2.1 y2.2.2.1).bind fun y4=>
 (I0.k y4.1.1 y4.2.1 y4.2.2.1).bind fun y5=>
 Ah (Dop.Ao.mk a y5.1.1 0 0 false) y5.2.1 y5.2.2.1)<|
 ci (y2.1.1=6) (Ah (Dop.Ao.mk a t 2 a false) y2.2.1 y2.2.2.1)<|
 (KN.k a y2.2.1 y2.2.2.1).bind fun y5=>
 Ah (Dop.Ao.mk y5.1.1 t 2 a false) y5.2.1 y5.2.2.1
def Iy.Kc:=kd 217 Iy.p fun x=>Iy.k x.1.2.1 x.1.2.2.1 x.2.1 x.2.2.1
theorem Iy.Kh:Iy.Kc.Holds prog:=kh AH (hc DW.Kh (hc F0.Kh (hc I0.Kh (hc KN.Kh hn)))) Iy.ok (by kernel_rfl)
def FM.k (p:Dop.Da) (k0:CK) (k1:CT):R2 Int CK CT:=
 ci (p.kind=3) ((BU.k 3 ((-1)) ((-1)) ((-1)) p.n [] k0 k1).bind Bp)<|
 (ED.k p.n k0 k1).bind Bp
def FM.Kc:=kd 133 FM.p fun x=>FM.k x.1.2.1 x.2.1 x.2.2.1
theorem FM.Kh:FM.Kc.Holds prog:=kh AH (hc BU.Kh (hc ED.Kh hn)) FM.ok (by kernel_rfl)
def Hd.k (op a:Int) (k0:CK) (k1:CT):R2 Int CK CT:=
 (BU.k 7 a ((-1)) ((-1)) op [] k0 k1).bind Bp
def Hd.Kc:=kd 229 Hd.p fun x=>Hd.k x.1.2.1 x.1.2.2.1 x.2.1 x.2.2.1
theorem Hd.Kh:Hd.Kc.Holds prog:=kh AH (hc BU.Kh hn) Hd.ok (by kernel_rfl)
def He.k (r a:Int) (k0:CK) (k1:CT):R2 Int CK CT:=
 (BU.k 6 a ((-1)) ((-1)) r [] k0 k1).bind Bp
def He.Kc:=kd 230 He.p fun x=>He.k x.1.2.1 x.1.2.2.1 x.2.1 x.2.2.1
theorem He.Kh:He.Kc.Holds prog:=kh AH (hc BU.Kh hn) He.ok (by kernel_rfl)
def Bn.k (kind a b d e n:Int) (text:List UInt8) (k0:CK) (k1:CT):R2 Int CK CT:=
 ck (Cu none (room 80 (k0.nodes.length+(Dop.AU.mk kind a b d e text n 0 0::[]).length)))<|
 ck (Az (I (k0.nodes++Dop.AU.mk kind a b d e text n 0 0::[]).length -1))<|
 Ah (I (k0.nodes++Dop.AU.mk kind a b d e text n 0 0::[]).length -1) (CK.EY k0 (k0.nodes++Dop.AU.mk kind a b d e text n 0 0::[])) k1
def Bn.Kc:=kd 131 Bn.p fun x=>Bn.k x.1.2.1 x.1.2.2.1 x.1.2.2.2.1 x.1.2.2.2.2.1 x.1.2.2.2.2.2.1 x.1.2.2.2.2.2.2.1 x.1.2.2.2.2.2.2.2.1 x.2.1 x.2.2.1
theorem Bn.Kh:Bn.Kc.Holds prog:=kh AH hn Bn.ok (by kernel_rfl)
abbrev Pb.T:Type:=Int->Int->Bool->Int->Int->Bool->CK->CT->Dop.Ao->R2 Int CK CT
abbrev Ln.T:Type:=Int->Int->Int->Bool->CK->CT->Dop.Ao->R2 Int CK CT
abbrev BR.KT:Type:=Pb.T×Ln.T×Unit
def Pb.kB (tK:BR.KT):Pb.T:=fun t2 t3 t4 t11 t12 t13 k0 k1 b2=>
 ci (t12=4) ((FL.k b2.CM k0 k1).bind fun y3=>
 let z1:R2 Int CK CT:=
 (DX.k b2.CM y3.2.2.1).bind fun y6=>
 ci y6.1.1 ((DX.k t2 y6.2.1).bind fun y8=>
 tK.2.1 t3 t11 t12 y8.1.1 y3.2.1 y8.2.1 b2)<|
 tK.2.1 t3 t11 t12 false y3.2.1 y6.2.1 b2
 ci y3.1.1 (ci t4 (z1)<|
 tK.2.1 t3 t11 t12 b2.zero y3.2.1 y3.2.2.1 b2)<|
 ci t4 (z1)<|
 tK.2.1 t3 t11 t12 t13 y3.2.1 y3.2.2.1 b2)<|
 ci t4 ((DX.k b2.CM k1).bind fun y4=>
 ci y4.1.1 ((DX.k t2 y4.2.1).bind fun y6=>
 tK.2.1 t3 t11 t12 y6.1.1 k0 y6.2.1 b2)<|
 tK.2.1 t3 t11 t12 false k0 y4.2.1 b2)<|
 tK.2.1 t3 t11 t12 t13 k0 k1 b2
def Ln.kB (tK:BR.KT):Ln.T:=fun t3 t11 t12 t13 k0 k1 b2=>
 ci (!t13) ((Au.k 8 t3 k0 k1).bind fun y3=>
 Ah y3.1.1.n y3.2.1 y3.2.2.1)<|
 ci (t12=3) (ci (!(t11=3)) ((Hd.k 22 b2.n k0 k1).bind Bp)<|
 Ah b2.n k0 k1)<|
 Ah b2.n k0 k1
def BR.kS (tK:BR.KT):BR.KT:=(Pb.kB tK,Ln.kB tK,())
def BR.kL (n:Nat):BR.KT:=Cw BR.kS n
def BR.k0 (tK:BR.KT) (t1:Dop.Ao) (t2 t3:Int) (t4:Bool) (k0:CK) (k1:CT):R2 Int CK CT:=
 (DW.k t1.CM k0 k1).bind fun y2=>
 (DW.k t2 y2.2.1 y2.2.2.1).bind fun y3=>
 (FL.k t1.CM y3.2.1 y3.2.2.1).bind fun y4=>
 ci y4.1.1 ((FL.k t2 y4.2.1 y4.2.2.1).bind fun y6=>
 ci (y2.1.1=4) (ci (y3.1.1=4) ((F0.k t1.CM y6.2.1 y6.2.2.1).bind fun y9=>
 (F0.k t2 y9.2.1 y9.2.2.1).bind fun y10=>
 ci (t1.CM=t2) (tK.1 t2 t3 t4 y2.1.1 y3.1.1 true y10.2.1 y10.2.2.1 t1)<|
 ci (y9.1.1=0) (tK.1 t2 t3 t4 y2.1.1 y3.1.1 true y10.2.1 y10.2.2.1 t1)<|
 tK.1 t2 t3 t4 y2.1.1 y3.1.1 (decide (y10.1.1=0)) y10.2.1 y10.2.2.1 t1)<|
 tK.1 t2 t3 t4 y2.1.1 y3.1.1 y6.1.1 y6.2.1 y6.2.2.1 t1)<|
 tK.1 t2 t3 t4 y2.1.1 y3.1.1 y6.1.1 y6.2.1 y6.2.2.1 t1)<|
 ci (y2.1.1=4) (ci (y3.1.1=4) ((F0.k t1.CM y4.2.1 y4.2.2.1).bind fun y8=>
 (F0.k t2 y8.2.1 y8.2.2.1).bind fun y9=>
 ci (t1.CM=t2) (tK.1 t2 t3 t4 y2.1.1 y3.1.1 true y9.2.1 y9.2.2.1 t1)<|
 ci (y8.1.1=0) (tK.1 t2 t3 t4 y2.1.1 y3.1.1 true y9.2.1 y9.2.2.1 t1)<|
 tK.1 t2 t3 t4 y2.1.1 y3.1.1 (decide (y9.1.1=0)) y9.2.1 y9.2.2.1 t1)<|
 tK.1 t2 t3 t4 y2.1.1 y3.1.1 false y4.2.1 y4.2.2.1 t1)<|
 tK.1 t2 t3 t4 y2.1.1 y3.1.1 false y4.2.1 y4.2.2.1 t1
def BR.k (t1:Dop.Ao) (t2 t3:Int) (t4:Bool) (k0:CK) (k1:CT):R2 Int CK CT:=BR.k0 (BR.kL 1000000) t1 t2 t3 t4 k0 k1
def BR.Kc:=kd 195 BR.p fun x=>BR.k x.1.2.1 x.1.2.2.1 x.1.2.2.2.1 x.1.2.2.2.2.1 x.2.1 x.2.2.1
theorem BR.Kh:BR.Kc.Holds prog:=F4 AH (hc DW.Kh (hc FL.Kh (hc F0.Kh (hc DX.Kh (hc Au.Kh (hc Hd.Kh hn)))))) BR.ok (fun t x=>BR.k0 t x.1.2.1 x.1.2.2.1 x.1.2.2.2.1 x.1.2.2.2.2.1 x.2.1 x.2.2.1) (fun c=>(fun t2 t3 t4 t11 t12 t13 k0 k1 b2=>c 7 BR.q7 rfl (((),t2,t3,t4,(),t11,t12,t13,()),(k0,k1,(b2,()),())),fun t3 t11 t12 t13 k0 k1 b2=>c 11 BR.eD rfl (((),t3,(),t11,t12,t13,()),(k0,k1,(b2,()),())),())) BR.kS (by kernel_rfl)
def Cj.k (op a b:Int) (k0:CK) (k1:CT):R2 Int CK CT:=
 (BU.k 8 a b ((-1)) op [] k0 k1).bind Bp
def Cj.Kc:=kd 243 Cj.p fun x=>Cj.k x.1.2.1 x.1.2.2.1 x.1.2.2.2.1 x.2.1 x.2.2.1
theorem Cj.Kh:Cj.Kc.Holds prog:=kh AH (hc BU.Kh hn) Cj.ok (by kernel_rfl)
def GN.k (n size:Int) (k0:CK) (k1:CT):R2 Int CK CT:=
 ci (size=1) (Ah n k0 k1)<|
 (ED.k size k0 k1).bind fun y3=>
 (Cj.k 3 n y3.1.1 y3.2.1 y3.2.2.1).bind Bp
def GN.Kc:=kd 244 GN.p fun x=>GN.k x.1.2.1 x.1.2.2.1 x.2.1 x.2.2.1
theorem GN.Kh:GN.Kc.Holds prog:=kh AH (hc ED.Kh (hc Cj.Kh hn)) GN.ok (by kernel_rfl)
abbrev PU.T:Type:=Int->Int->Int->CK->CT->R2 Int CK CT
abbrev LQ.T:Type:=Int->Int->Int->Int->Int->CK->CT->R2 Int CK CT
abbrev C6.KT:Type:=PU.T×LQ.T×Unit
def PU.kB (tK:C6.KT):PU.T:=fun t1 t2 t7 k0 k1=>
 let A1:=List.getD k0.t.types t7.toNat Dop.d6
 let A2:=List.getD k0.num A1.elem.toNat 0
 let z1:R2 Int CK CT:=
 ck (0<=t1/\t1<I k0.num.length)<|
 ck (t1.toNat<k0.num.length)<|
 Ah (List.getD k0.num t1.toNat 0) k0 k1
 ci (t7<=t1) (ci (t7<I k0.t.types.length) (ck (0<=t7/\t7<I k0.t.types.length)<|
 ci (A1.kind=4) (ck (0<=A1.elem/\A1.elem<I k0.num.length)<|
 ck (A1.elem.toNat<k0.num.length)<|
 (Is.k A2 k1).bind fun y5=>
 tK.2.1 t1 t2 t7 y5.1.1 y5.1.2.1 k0 y5.2.1)<|
 ci (A1.kind=5) (ck (0<=A1.elem/\A1.elem<I k0.num.length)<|
 ck (A1.elem.toNat<k0.num.length)<|
 (KM.k A2 (A1.n) k1).bind fun y6=>
 tK.2.1 t1 t2 t7 y6.1.1 y6.1.2.1 k0 y6.2.1)<|
 ci (A1.kind=6) ((Iu.k (A1.name) k1).bind fun y7=>
 tK.2.1 t1 t2 t7 y7.1.1 y7.1.2.1 k0 y7.2.1)<|
 tK.2.1 t1 t2 t7 t7 0 k0 k1)<|
 z1)<|
 z1
def LQ.kB (tK:C6.KT):LQ.T:=fun t1 t2 t7 t9 t10 k0 k1=>
 ci (!(t10=0)) ((Au.k t10 t2 k0 k1).bind fun y3=>
 Ah 1 y3.2.1 y3.2.2.1)<|
 ck (Cu none (room 8 (k0.num.length+(t9::[]).length)))<|
 ck (Az (t7+1))<|
 tK.1 t1 t2 (t7+1) ((CK.NX k0 (k0.num++t9::[]))) k1
def C6.kS (tK:C6.KT):C6.KT:=(PU.kB tK,LQ.kB tK,())
def C6.kL (n:Nat):C6.KT:=Cw C6.kS n
def C6.k0 (tK:C6.KT) (t1 t2:Int) (k0:CK) (k1:CT):R2 Int CK CT:=
 tK.1 t1 t2 (I k0.num.length) k0 k1
def C6.k (t1 t2:Int) (k0:CK) (k1:CT):R2 Int CK CT:=C6.k0 (C6.kL 1000000) t1 t2 k0 k1
def C6.Kc:=kd 121 C6.p fun x=>C6.k x.1.2.1 x.1.2.2.1 x.2.1 x.2.2.1
theorem C6.Kh:C6.Kc.Holds prog:=F4 AH (hc Is.Kh (hc KM.Kh (hc Iu.Kh (hc Au.Kh hn)))) C6.ok (fun t x=>C6.k0 t x.1.2.1 x.1.2.2.1 x.2.1 x.2.2.1) (fun c=>(fun t1 t2 t7 k0 k1=>c 2 C6.q2 rfl (((),t1,t2,t7,()),(k0,k1,())),fun t1 t2 t7 t9 t10 k0 k1=>c 13 C6.YT rfl (((),t1,t2,t7,t9,t10,()),(k0,k1,())),())) C6.kS (by kernel_rfl)
def Iz.k (v:Dop.Ao) (at_:Int) (k0:CK) (k1:CT):R2 Dop.Ao CK CT:=
 ci (!(k0.e=0)) ((Au.k 8 at_ k0 k1).bind Bp)<|
 (DW.k v.CM k0 k1).bind fun y3=>
 ci (!(y3.1.1=4)) ((Au.k 8 at_ y3.2.1 y3.2.2.1).bind Bp)<|
 (F0.k v.CM y3.2.1 y3.2.2.1).bind fun y5=>
 (BZ.k y5.1.1 y5.2.2.1).bind fun y6=>
 ci (!y6.1.2.1) ((Au.k 8 at_ y5.2.1 y6.2.1).bind Bp)<|
 (Iy.k v.n y5.1.1 y5.2.1 y6.2.1).bind Bp
def Iz.Kc:=kd 225 Iz.p fun x=>Iz.k x.1.2.1 x.1.2.2.1 x.2.1 x.2.2.1
theorem Iz.Kh:Iz.Kc.Holds prog:=kh AH (hc DW.Kh (hc Au.Kh (hc F0.Kh (hc BZ.IN (hc Iy.Kh hn))))) Iz.ok (by kernel_rfl)
def Hc.KE:Env Dop.D4:=Ac prog 224 tb [FL.Kc,Gq.Kc,DW.Kc,Au.Kc,BU.Kc] Hc.p
def Hc.k (t1 t2 t3:Dop.Ao) (t4:Int) (k0:CK) (k1:CT):R2 Dop.Ao CK CT:=Hc.KE.Ez 3000 1000000 Hc.p.sp (((),t1,t2,t3,t4,()),(k0,k1,()))
def Hc.Kc:=kd 224 Hc.p fun x=>Hc.k x.1.2.1 x.1.2.2.1 x.1.2.2.2.1 x.1.2.2.2.2.1 x.2.1 x.2.2.1
theorem Hc.Kh:Hc.Kc.Holds prog:=kh AH (hc FL.Kh (hc Gq.Kh (hc DW.Kh (hc Au.Kh (hc BU.Kh hn))))) Hc.ok (by kernel_rfl)
def KP.k (ahead n:Int) (k0:CK) (k1:CT):R2 Int CK CT:=
 ci (ahead<0) (Ah n k0 k1)<|
 (BU.k 15 ahead n ((-1)) 0 [] k0 k1).bind Bp
def KP.Kc:=kd 246 KP.p fun x=>KP.k x.1.2.1 x.1.2.2.1 x.2.1 x.2.2.1
theorem KP.Kh:KP.Kc.Holds prog:=kh AH (hc BU.Kh hn) KP.ok (by kernel_rfl)
def EP.k (l:Dop.Ao) (n:Int) (k0:CK) (k1:CT):R2 Int CK CT:=
 ci (l.left=1) ((He.k l.at_ n k0 k1).bind Bp)<|
 (BU.k 5 l.at_ n ((-1)) 0 [] k0 k1).bind Bp
def EP.Kc:=kd 196 EP.p fun x=>EP.k x.1.2.1 x.1.2.2.1 x.2.1 x.2.2.1
theorem EP.Kh:EP.Kc.Holds prog:=kh AH (hc He.Kh (hc BU.Kh hn)) EP.ok (by kernel_rfl)
def Mx.k :Ei (List (List UInt8×Dop.LG)):=
 CO (Cb (Cb (Cb (Cb (Cb (Cb (Cb (Cb (Cb (Cb (Cb (Cb (Cb (Cb (Cb (Cb (([]:List (List UInt8×Dop.LG))) ([43]:List UInt8) (Dop.LG.mk 1 1)) ([45]:List UInt8) (Dop.LG.mk 2 2)) ([42]:List UInt8) (Dop.LG.mk 3 3)) ([47]:List UInt8) (Dop.LG.mk 4 6)) ([37]:List UInt8) (Dop.LG.mk 5 7)) ([38]:List UInt8) (Dop.LG.mk 8 8)) ([124]:List UInt8) (Dop.LG.mk 9 9)) ([94]:List UInt8) (Dop.LG.mk 10 10)) ([60,60]:List UInt8) (Dop.LG.mk 11 11)) ([62,62]:List UInt8) (Dop.LG.mk 12 13)) ([61,61]:List UInt8) (Dop.LG.mk 14 14)) ([33,61]:List UInt8) (Dop.LG.mk 15 15)) ([60]:List UInt8) (Dop.LG.mk 16 18)) ([60,61]:List UInt8) (Dop.LG.mk 17 19)) ([62]:List UInt8) (Dop.LG.mk 16 18)) ([62,61]:List UInt8) (Dop.LG.mk 17 19))
def Mx.Kc:=kd 241 Mx.p fun x=>Mx.k
theorem Mx.Kh:Mx.Kc.Holds prog:=kh AH hn Mx.ok (by kernel_rfl)
def KO.k (l:Dop.Ao) (at_:Int) (k0:CK) (k1:CT):kJ Int Dop.Ao CK CT:=
 ci (!(l.left=2)) (ke (-1) l k0 k1)<|
 (Iv.k at_ k0 k1).bind fun y3=>
 (He.k y3.1.1 l.at_ y3.2.1 y3.2.2.1).bind fun y4=>
 (FY.k y3.1.1 y4.2.1 y4.2.2.1).bind fun y5=>
 (FY.k y3.1.1 y5.2.1 y5.2.2.1).bind fun y6=>
 (KN.k y6.1.1 y6.2.1 y6.2.2.1).bind fun y7=>
 ke y4.1.1 (Dop.Ao.mk y7.1.1 l.CM 2 y5.1.1 false) y7.2.1 y7.2.2.1
def KO.Kc:=kd 245 KO.p fun x=>KO.k x.1.2.1 x.1.2.2.1 x.2.1 x.2.2.1
theorem KO.Kh:KO.Kc.Holds prog:=kh AH (hc Iv.Kh (hc He.Kh (hc FY.Kh (hc KN.Kh hn)))) KO.ok (by kernel_rfl)
abbrev Pc.T:Type:=List UInt8->Int->Bool->Bool->CK->CT->Dop.Ao->Dop.Ao->Dop.Ao->R2 Dop.Ao CK CT
abbrev Lo.T:Type:=List UInt8->Int->Bool->Bool->Bool->Int->CK->CT->Dop.Ao->Dop.Ao->Dop.Ao->Dop.LG->R2 Dop.Ao CK CT
abbrev Lp.T:Type:=List UInt8->Int->CK->CT->Dop.Ao->Dop.Ao->Dop.Ao->Dop.LG->R2 Dop.Ao CK CT
abbrev Lq.T:Type:=List UInt8->Int->Bool->Bool->Int->CK->CT->Dop.Ao->Dop.Ao->Dop.Ao->Dop.LG->R2 Dop.Ao CK CT
abbrev Lr.T:Type:=List UInt8->Int->Int->CK->CT->Dop.Ao->Dop.Ao->Dop.Ao->Dop.LG->R2 Dop.Ao CK CT
abbrev Bo.KT:Type:=Pc.T×Lo.T×Lp.T×Lq.T×Lr.T×Unit
def Pc.kB (tK:Bo.KT):Pc.T:=fun t1 t4 t11 t12 k0 k1 b2 b3 b4=>
 (Mx.k).bind fun y2=>
 ck (([32]:List UInt8).length+t1.length<=9223372036854775807)<|
 ck (((32:UInt8)::[]++t1).length+([32]:List UInt8).length<=9223372036854775807)<|
 ck (VN ([32,61,61,32,33,61,32,60,32,60,61,32,62,32,62,61,32]:List UInt8))<|
 (Ji.k b2.CM k0 k1).bind fun y3=>
 ci y3.1.1 (ci (!(t1=(62:UInt8)::(62:UInt8)::[])) (tK.2.1 t1 t4 t11 t12 (Lib.contains ([32,61,61,32,33,61,32,60,32,60,61,32,62,32,62,61,32]:List UInt8) ((32:UInt8)::[]++t1++(32:UInt8)::[])) 1 y3.2.1 y3.2.2.1 b2 b3 b4 ((AN y2.1.1 t1).getD Dop.d14))<|
 (Ji.k b2.CM y3.2.1 y3.2.2.1).bind fun y6=>
 ci y6.1.1 (tK.2.1 t1 t4 t11 t12 (Lib.contains ([32,61,61,32,33,61,32,60,32,60,61,32,62,32,62,61,32]:List UInt8) ((32:UInt8)::[]++t1++(32:UInt8)::[])) 1 y6.2.1 y6.2.2.1 b2 b3 b4 ((AN y2.1.1 t1).getD Dop.d14))<|
 tK.2.1 t1 t4 t11 t12 (Lib.contains ([32,61,61,32,33,61,32,60,32,60,61,32,62,32,62,61,32]:List UInt8) ((32:UInt8)::[]++t1++(32:UInt8)::[])) 0 y6.2.1 y6.2.2.1 b2 b3 b4 ((AN y2.1.1 t1).getD Dop.d14))<|
 (Ji.k b3.CM y3.2.1 y3.2.2.1).bind fun y5=>
 ci y5.1.1 (ci (!(t1=(62:UInt8)::(62:UInt8)::[])) (tK.2.1 t1 t4 t11 t12 (Lib.contains ([32,61,61,32,33,61,32,60,32,60,61,32,62,32,62,61,32]:List UInt8) ((32:UInt8)::[]++t1++(32:UInt8)::[])) 1 y5.2.1 y5.2.2.1 b2 b3 b4 ((AN y2.1.1 t1).getD Dop.d14))<|
 (Ji.k b2.CM y5.2.1 y5.2.2.1).bind fun y8=>
 ci y8.1.1 (tK.2.1 t1 t4 t11 t12 (Lib.contains ([32,61,61,32,33,61,32,60,32,60,61,32,62,32,62,61,32]:List UInt8) ((32:UInt8)::[]++t1++(32:UInt8)::[])) 1 y8.2.1 y8.2.2.1 b2 b3 b4 ((AN y2.1.1 t1).getD Dop.d14))<|
 tK.2.1 t1 t4 t11 t12 (Lib.contains ([32,61,61,32,33,61,32,60,32,60,61,32,62,32,62,61,32]:List UInt8) ((32:UInt8)::[]++t1++(32:UInt8)::[])) 0 y8.2.1 y8.2.2.1 b2 b3 b4 ((AN y2.1.1 t1).getD Dop.d14))<|
 tK.2.1 t1 t4 t11 t12 (Lib.contains ([32,61,61,32,33,61,32,60,32,60,61,32,62,32,62,61,32]:List UInt8) ((32:UInt8)::[]++t1++(32:UInt8)::[])) 0 y5.2.1 y5.2.2.1 b2 b3 b4 ((AN y2.1.1 t1).getD Dop.d14)
def Lo.kB (tK:Bo.KT):Lo.T:=fun t1 t4 t11 t12 t14 t16 k0 k1 b2 b3 b4 b5=>
 let A1:=(Au.k 8 t4 k0 k1).bind Bp
 ci t14 (ci (!t11 == t12) (ci t11 (ci (!b3.zero) (ci t12 (ci (!b2.zero) A1<|
 ci t11 (ci t12 (ci (!(b2.CM=b3.CM)) A1<|
 tK.2.2.1 t1 t16 k0 k1 b2 b3 b4 b5)<|
 tK.2.2.1 t1 t16 k0 k1 b2 b3 b4 b5)<|
 tK.2.2.1 t1 t16 k0 k1 b2 b3 b4 b5)<|
 (Au.k 8 t4 k0 k1).bind Bp)<|
 ci t11 (ci t12 (ci (!(b2.CM=b3.CM)) A1<|
 tK.2.2.1 t1 t16 k0 k1 b2 b3 b4 b5)<|
 tK.2.2.1 t1 t16 k0 k1 b2 b3 b4 b5)<|
 tK.2.2.1 t1 t16 k0 k1 b2 b3 b4 b5)<|
 ci t12 (ci (!b2.zero) A1<|
 ci t11 (ci t12 (ci (!(b2.CM=b3.CM)) A1<|
 tK.2.2.1 t1 t16 k0 k1 b2 b3 b4 b5)<|
 tK.2.2.1 t1 t16 k0 k1 b2 b3 b4 b5)<|
 tK.2.2.1 t1 t16 k0 k1 b2 b3 b4 b5)<|
 (Au.k 8 t4 k0 k1).bind Bp)<|
 ci t11 (ci t12 (ci (!(b2.CM=b3.CM)) A1<|
 tK.2.2.1 t1 t16 k0 k1 b2 b3 b4 b5)<|
 tK.2.2.1 t1 t16 k0 k1 b2 b3 b4 b5)<|
 tK.2.2.1 t1 t16 k0 k1 b2 b3 b4 b5)<|
 tK.2.2.2.1 t1 t4 t11 t12 t16 k0 k1 b2 b3 b4 b5
def Lp.kB (tK:Bo.KT):Lp.T:=fun t1 t16 k0 k1 b2 b3 b4 b5=>
 ci (t1=(62:UInt8)::[]) (ck (0<=t16/\t16<I 2)<|
 ck (t16.toNat<(b5.x0::b5.x1::[]).length)<|
 (Cj.k ((b5.x0::b5.x1::[]).getD t16.toNat 0) b3.n b2.n k0 k1).bind fun y3=>
 Ah (Dop.Ao.mk y3.1.1 1 0 0 false) y3.2.1 y3.2.2.1)<|
 ci (t1=(62:UInt8)::(61:UInt8)::[]) (ck (0<=t16/\t16<I 2)<|
 ck (t16.toNat<(b5.x0::b5.x1::[]).length)<|
 (Cj.k ((b5.x0::b5.x1::[]).getD t16.toNat 0) b3.n b2.n k0 k1).bind fun y4=>
 Ah (Dop.Ao.mk y4.1.1 1 0 0 false) y4.2.1 y4.2.2.1)<|
 ck (0<=t16/\t16<I 2)<|
 ck (t16.toNat<(b5.x0::b5.x1::[]).length)<|
 (Cj.k ((b5.x0::b5.x1::[]).getD t16.toNat 0) b2.n b3.n k0 k1).bind fun y4=>
 Ah (Dop.Ao.mk y4.1.1 1 0 0 false) y4.2.1 y4.2.2.1
def Lq.kB (tK:Bo.KT):Lq.T:=fun t1 t4 t11 t12 t16 k0 k1 b2 b3 b4 b5=>
 let A4:=Gq.k b2.CM b3.CM k0 k1
 let A3:=F0.k b3.CM k0 k1
 let A2:=F0.k b2.CM k0 k1
 let A1:=(Au.k 8 t4 k0 k1).bind Bp
 let z1:R2 Dop.Ao CK CT:=
 ci (!(t1=(43:UInt8)::[])) (ci (!(t1=(45:UInt8)::[])) A1<|
 ci t12 A1<|
 ci t11 (A2.bind fun y9=>
 ck ((0:Int)<=0/\0<I 2)<|
 (GN.k b3.n y9.1.2.1 y9.2.1 y9.2.2.1).bind fun y10=>
 (Cj.k b5.x0 b2.n y10.1.1 y10.2.1 y10.2.2.1).bind fun y11=>
 Ah (Dop.Ao.mk y11.1.1 b2.CM 0 0 false) y11.2.1 y11.2.2.1)<|
 A3.bind fun y9=>
 ck ((0:Int)<=0/\0<I 2)<|
 (GN.k b2.n y9.1.2.1 y9.2.1 y9.2.2.1).bind fun y10=>
 (Cj.k b5.x0 y10.1.1 b3.n y10.2.1 y10.2.2.1).bind fun y11=>
 Ah (Dop.Ao.mk y11.1.1 b3.CM 0 0 false) y11.2.1 y11.2.2.1)<|
 ci t11 (A2.bind fun y7=>
 ck ((0:Int)<=0/\0<I 2)<|
 (GN.k b3.n y7.1.2.1 y7.2.1 y7.2.2.1).bind fun y8=>
 (Cj.k b5.x0 b2.n y8.1.1 y8.2.1 y8.2.2.1).bind fun y9=>
 Ah (Dop.Ao.mk y9.1.1 b2.CM 0 0 false) y9.2.1 y9.2.2.1)<|
 A3.bind fun y7=>
 ck ((0:Int)<=0/\0<I 2)<|
 (GN.k b2.n y7.1.2.1 y7.2.1 y7.2.2.1).bind fun y8=>
 (Cj.k b5.x0 y8.1.1 b3.n y8.2.1 y8.2.2.1).bind fun y9=>
 Ah (Dop.Ao.mk y9.1.1 b3.CM 0 0 false) y9.2.1 y9.2.2.1
 let z2:R2 Dop.Ao CK CT:=
 ci t11 (A2.bind fun y8=>
 ck ((0:Int)<=0/\0<I 2)<|
 (GN.k b3.n y8.1.2.1 y8.2.1 y8.2.2.1).bind fun y9=>
 (Cj.k b5.x0 b2.n y9.1.1 y9.2.1 y9.2.2.1).bind fun y10=>
 Ah (Dop.Ao.mk y10.1.1 b2.CM 0 0 false) y10.2.1 y10.2.2.1)<|
 A3.bind fun y8=>
 ck ((0:Int)<=0/\0<I 2)<|
 (GN.k b2.n y8.1.2.1 y8.2.1 y8.2.2.1).bind fun y9=>
 (Cj.k b5.x0 y9.1.1 b3.n y9.2.1 y9.2.2.1).bind fun y10=>
 Ah (Dop.Ao.mk y10.1.1 b3.CM 0 0 false) y10.2.1 y10.2.2.1
 ci t11 (ci t12 (A2.bind fun y4=>
 ci (!(t1=(45:UInt8)::[])) ((Au.k 8 t4 y4.2.1 y4.2.2.1).bind Bp)<|
 ci (!(b2.CM=b3.CM)) ((Au.k 8 t4 y4.2.1 y4.2.2.1).bind Bp)<|
 (Cj.k 2 b2.n b3.n y4.2.1 y4.2.2.1).bind fun y7=>
 ci (y4.1.2.1=1) (Ah (Dop.Ao.mk y7.1.1 1 0 0 false) y7.2.1 y7.2.2.1)<|
 (ED.k y4.1.2.1 y7.2.1 y7.2.2.1).bind fun y9=>
 (Cj.k 4 y7.1.1 y9.1.1 y9.2.1 y9.2.2.1).bind fun y10=>
 Ah (Dop.Ao.mk y10.1.1 1 0 0 false) y10.2.1 y10.2.2.1)<|
 ci t11 (z1)<|
 ci t12 (ci (!(t1=(43:UInt8)::[])) (ci (!(t1=(45:UInt8)::[])) A1<|
 ci t12 A1<|
 ci t11 (A2.bind fun y10=>
 ck ((0:Int)<=0/\0<I 2)<|
 (GN.k b3.n y10.1.2.1 y10.2.1 y10.2.2.1).bind fun y11=>
 (Cj.k b5.x0 b2.n y11.1.1 y11.2.1 y11.2.2.1).bind fun y12=>
 Ah (Dop.Ao.mk y12.1.1 b2.CM 0 0 false) y12.2.1 y12.2.2.1)<|
 A3.bind fun y10=>
 ck ((0:Int)<=0/\0<I 2)<|
 (GN.k b2.n y10.1.2.1 y10.2.1 y10.2.2.1).bind fun y11=>
 (Cj.k b5.x0 y11.1.1 b3.n y11.2.1 y11.2.2.1).bind fun y12=>
 Ah (Dop.Ao.mk y12.1.1 b3.CM 0 0 false) y12.2.1 y12.2.2.1)<|
 z2)<|
 A4.bind fun y6=>
 tK.2.2.2.2.1 t1 t16 y6.1.1 y6.2.1 y6.2.2.1 b2 b3 b4 b5)<|
 ci t11 (ci (!(t1=(43:UInt8)::[])) (ci (!(t1=(45:UInt8)::[])) A1<|
 ci t12 A1<|
 z2)<|
 ci t11 (A2.bind fun y6=>
 ck ((0:Int)<=0/\0<I 2)<|
 (GN.k b3.n y6.1.2.1 y6.2.1 y6.2.2.1).bind fun y7=>
 (Cj.k b5.x0 b2.n y7.1.1 y7.2.1 y7.2.2.1).bind fun y8=>
 Ah (Dop.Ao.mk y8.1.1 b2.CM 0 0 false) y8.2.1 y8.2.2.1)<|
 A3.bind fun y6=>
 ck ((0:Int)<=0/\0<I 2)<|
 (GN.k b2.n y6.1.2.1 y6.2.1 y6.2.2.1).bind fun y7=>
 (Cj.k b5.x0 y7.1.1 b3.n y7.2.1 y7.2.2.1).bind fun y8=>
 Ah (Dop.Ao.mk y8.1.1 b3.CM 0 0 false) y8.2.1 y8.2.2.1)<|
 ci t12 (z1)<|
 A4.bind fun y5=>
 tK.2.2.2.2.1 t1 t16 y5.1.1 y5.2.1 y5.2.2.1 b2 b3 b4 b5
def Lr.kB (tK:Bo.KT):Lr.T:=fun t1 t16 t24 k0 k1 b2 b3 b4 b5=>
 let A1:=Gq.k b2.CM b2.CM k0 k1
 ci (t1=(60:UInt8)::(60:UInt8)::[]) (A1.bind fun y3=>
 ci (t1=(62:UInt8)::(62:UInt8)::[]) (ci (y3.1.1=2) (ck ((0:Int)<=1/\1<I 2)<|
 ck (Int.toNat 1<(b5.x0::b5.x1::[]).length)<|
 (Cj.k ((b5.x0::b5.x1::[]).getD (Int.toNat 1) 0) b2.n b3.n y3.2.1 y3.2.2.1).bind fun y6=>
 Ah (Dop.Ao.mk y6.1.1 y3.1.1 0 0 false) y6.2.1 y6.2.2.1)<|
 ck (0<=t16/\t16<I 2)<|
 ck (t16.toNat<(b5.x0::b5.x1::[]).length)<|
 (Cj.k ((b5.x0::b5.x1::[]).getD t16.toNat 0) b2.n b3.n y3.2.1 y3.2.2.1).bind fun y6=>
 Ah (Dop.Ao.mk y6.1.1 y3.1.1 0 0 false) y6.2.1 y6.2.2.1)<|
 ck (0<=t16/\t16<I 2)<|
 ck (t16.toNat<(b5.x0::b5.x1::[]).length)<|
 (Cj.k ((b5.x0::b5.x1::[]).getD t16.toNat 0) b2.n b3.n y3.2.1 y3.2.2.1).bind fun y5=>
 Ah (Dop.Ao.mk y5.1.1 y3.1.1 0 0 false) y5.2.1 y5.2.2.1)<|
 ci (t1=(62:UInt8)::(62:UInt8)::[]) (A1.bind fun y4=>
 ci (t1=(62:UInt8)::(62:UInt8)::[]) (ci (y4.1.1=2) (ck ((0:Int)<=1/\1<I 2)<|
 ck (Int.toNat 1<(b5.x0::b5.x1::[]).length)<|
 (Cj.k ((b5.x0::b5.x1::[]).getD (Int.toNat 1) 0) b2.n b3.n y4.2.1 y4.2.2.1).bind fun y7=>
 Ah (Dop.Ao.mk y7.1.1 y4.1.1 0 0 false) y7.2.1 y7.2.2.1)<|
 ck (0<=t16/\t16<I 2)<|
 ck (t16.toNat<(b5.x0::b5.x1::[]).length)<|
 (Cj.k ((b5.x0::b5.x1::[]).getD t16.toNat 0) b2.n b3.n y4.2.1 y4.2.2.1).bind fun y7=>
 Ah (Dop.Ao.mk y7.1.1 y4.1.1 0 0 false) y7.2.1 y7.2.2.1)<|
 ck (0<=t16/\t16<I 2)<|
 ck (t16.toNat<(b5.x0::b5.x1::[]).length)<|
 (Cj.k ((b5.x0::b5.x1::[]).getD t16.toNat 0) b2.n b3.n y4.2.1 y4.2.2.1).bind fun y6=>
 Ah (Dop.Ao.mk y6.1.1 y4.1.1 0 0 false) y6.2.1 y6.2.2.1)<|
 ci (t1=(62:UInt8)::(62:UInt8)::[]) (ci (t24=2) (ck ((0:Int)<=1/\1<I 2)<|
 ck (Int.toNat 1<(b5.x0::b5.x1::[]).length)<|
 (Cj.k ((b5.x0::b5.x1::[]).getD (Int.toNat 1) 0) b2.n b3.n k0 k1).bind fun y6=>
 Ah (Dop.Ao.mk y6.1.1 t24 0 0 false) y6.2.1 y6.2.2.1)<|
 ck (0<=t16/\t16<I 2)<|
 ck (t16.toNat<(b5.x0::b5.x1::[]).length)<|
 (Cj.k ((b5.x0::b5.x1::[]).getD t16.toNat 0) b2.n b3.n k0 k1).bind fun y6=>
 Ah (Dop.Ao.mk y6.1.1 t24 0 0 false) y6.2.1 y6.2.2.1)<|
 ck (0<=t16/\t16<I 2)<|
 ck (t16.toNat<(b5.x0::b5.x1::[]).length)<|
 (Cj.k ((b5.x0::b5.x1::[]).getD t16.toNat 0) b2.n b3.n k0 k1).bind fun y5=>
 Ah (Dop.Ao.mk y5.1.1 t24 0 0 false) y5.2.1 y5.2.2.1
def Bo.kS (tK:Bo.KT):Bo.KT:=(Pc.kB tK,Lo.kB tK,Lp.kB tK,Lq.kB tK,Lr.kB tK,())
def Bo.kL (n:Nat):Bo.KT:=Cw Bo.kS n
def Bo.k0 (tK:Bo.KT) (t1:List UInt8) (t2 t3:Dop.Ao) (t4:Int) (k0:CK) (k1:CT):R2 Dop.Ao CK CT:=
 ci (!(k0.e=0)) (Ah (Dop.Ao.mk (-1) 1 0 0 false) k0 k1)<|
 (DW.k t2.CM k0 k1).bind fun y3=>
 (DW.k t3.CM y3.2.1 y3.2.2.1).bind fun y4=>
 tK.1 t1 t4 (decide (y3.1.1=4)) (decide (y4.1.1=4)) y4.2.1 y4.2.2.1 t2 t3 (Dop.Ao.mk 0 0 0 0 false)
def Bo.k (t1:List UInt8) (t2 t3:Dop.Ao) (t4:Int) (k0:CK) (k1:CT):R2 Dop.Ao CK CT:=Bo.k0 (Bo.kL 1000000) t1 t2 t3 t4 k0 k1
def Bo.Kc:=kd 219 Bo.p fun x=>Bo.k x.1.2.1 x.1.2.2.1 x.1.2.2.2.1 x.1.2.2.2.2.1 x.2.1 x.2.2.1
theorem Bo.Kh:Bo.Kc.Holds prog:=F4 AH (hc DW.Kh (hc Mx.Kh (hc contains.holds (hc Ji.Kh (hc Au.Kh (hc Cj.Kh (hc F0.Kh (hc ED.Kh (hc GN.Kh (hc Gq.Kh hn)))))))))) Bo.ok (fun t x=>Bo.k0 t x.1.2.1 x.1.2.2.1 x.1.2.2.2.1 x.1.2.2.2.2.1 x.2.1 x.2.2.1) (fun c=>(fun t1 t4 t11 t12 k0 k1 b2 b3 b4=>c 4 Bo.q4 rfl (((),t1,t4,(),(),(),t11,t12,()),(k0,k1,(b2,()),(b3,()),(b4,()),())),fun t1 t4 t11 t12 t14 t16 k0 k1 b2 b3 b4 b5=>c 10 Bo.VW rfl (((),t1,t4,(),(),(),t11,t12,(),t14,t16,()),(k0,k1,(b2,()),(b3,()),(b4,()),(b5,()),())),fun t1 t16 k0 k1 b2 b3 b4 b5=>c 13 Bo.YT rfl (((),t1,(),(),(),(),t16,()),(k0,k1,(b2,()),(b3,()),(b4,()),(b5,()),())),fun t1 t4 t11 t12 t16 k0 k1 b2 b3 b4 b5=>c 16 Bo.bg rfl (((),t1,t4,(),(),(),t11,t12,(),t16,()),(k0,k1,(b2,()),(b3,()),(b4,()),(b5,()),())),fun t1 t16 t24 k0 k1 b2 b3 b4 b5=>c 33 Bo.mM rfl (((),t1,(),(),(),(),t16,t24,()),(k0,k1,(b2,()),(b3,()),(b4,()),(b5,()),())),())) Bo.kS (by kernel_rfl)
end
end Go.Proofs.Tryz
