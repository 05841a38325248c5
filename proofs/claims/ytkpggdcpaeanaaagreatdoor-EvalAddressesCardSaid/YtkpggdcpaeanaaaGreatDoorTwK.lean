/-
 Functions in plain words (what their equations say), and their contracts. Written by a program.
-/
import Derived.Test.YtkpggdcpaeanaaaGreatDoorTwD
import Derived.Test.YtkpggdcpaeanaaaGreatDoorMm
set_option linter.all false
set_option maxRecDepth 100000
set_option maxHeartbeats 4000000
namespace Go.Proofs.Tryz
open Go Go.En
noncomputable section
def Ef.k (n:Int) (k0:CT):VA Dop.G4 Bool CT:=
 let A1:=OH (Dop.G4.mk 0 0 0 []) false k0
 ci (n<0) A1<|
 ci (I k0.l.length<=n) A1<|
 ck (0<=n/\n<I k0.l.length)<|
 ck (n.toNat<k0.l.length)<|
 OH (List.getD k0.l n.toNat Dop.d6) true k0
def Ef.Kc:=kd 163 Ef.p fun x=>Ef.k x.1.2.1 x.2.1
theorem Ef.Kh:Ef.Kc.Holds prog:=kh AH hn Ef.ok (by kernel_rfl)
def Ik.k (x:Dop.G4) (k0:CT):VA Int Int CT:=
 (De.k k0.l x).bind fun y2=>
 ci (0<=y2.1.1) (OH y2.1.1 0 k0)<|
 ci (I k0.l.length=256) (OH 0 4 k0)<|
 ck (Cq none (room 40 (k0.l.length+(x::[]).length)))<|
 ck (Au (I (k0.l++x::[]).length -1))<|
 OH (I (k0.l++x::[]).length -1) 0 (CT.kU k0 (k0.l++x::[]))
def Ik.Kc:=kd 193 Ik.p fun x=>Ik.k x.1.2.1 x.2.1
theorem Ik.Kh:Ik.Kc.Holds prog:=kh AH (hc De.Kh hn) Ik.ok (by kernel_rfl)
def Ig.k (elem:Int) (k0:CT):VA Int Int CT:=
 (Ef.k elem k0).bind fun y2=>
 ci (!y2.1.2.1) (OH 0 1 y2.2.1)<|
 (Ik.k (Dop.G4.mk 4 elem 0 []) y2.2.1).bind jd
def Ig.Kc:=kd 159 Ig.p fun x=>Ig.k x.1.2.1 x.2.1
theorem Ig.Kh:Ig.Kc.Holds prog:=kh AH (hc Ef.Kh (hc Ik.Kh hn)) Ig.ok (by kernel_rfl)
abbrev BU.kr (r:Fi.T) (t1:Int) (k0:CT):VA Int Bool CT:=r.1 (((),t1,()),(k0,()))
abbrev LF.T:Type:=Int->List Dop.Pz->Int->Int->CT->VA Int Bool CT
abbrev BU.KT:Type:=LF.T×Unit
def LF.kB (rK:Fi.T) (tK:BU.KT):LF.T:=fun t10 t54 t55 t56 k0=>
 ci (t56<t55) (ck (0<=t56/\t56<I t54.length)<|
 (BU.kr rK ((List.getD t54 t56.toNat Dop.d16).Ad) k0).bind fun y3=>
 ck (Au (t10+y3.1.1))<|
 ck (Au (t56+1))<|
 tK.1 (t10+y3.1.1) t54 t55 (t56+1) y3.2.1)<|
 OH t10 (decide (0<t10)) k0
def BU.kS (rK:Fi.T) (tK:BU.KT):BU.KT:=(LF.kB rK tK,())
def BU.kL (rK:Fi.T) (n:Nat):BU.KT:=DA (BU.kS rK) n
def BU.k0 (rK:Fi.T) (tK:BU.KT) (t1:Int) (k0:CT):VA Int Bool CT:=
 (Ef.k t1 k0).bind fun y2=>
 ci (!y2.1.2.1) (OH 0 false y2.2.1)<|
 ci (y2.1.1.kind=0) (OH 0 false y2.2.1)<|
 ci (y2.1.1.kind=5) ((BU.kr rK y2.1.1.elem y2.2.1).bind fun y6=>
 ck (Au (y6.1.1*y2.1.1.n))<|
 OH (y6.1.1*y2.1.1.n) true y6.2.1)<|
 ci (y2.1.1.kind=6) (tK.1 0 ((AP (CT.fields y2.2.1) y2.1.1.name).getD []) (I ((AP (CT.fields y2.2.1) y2.1.1.name).getD []).length) 0 y2.2.1)<|
 OH 1 true y2.2.1
def BU.kf (rK:Fi.T) (t1:Int) (k0:CT):VA Int Bool CT:=BU.k0 rK (BU.kL rK 1000000) t1 k0
def Fi.kS (r:Fi.T):Fi.T:=(fun x=>BU.kf r x.1.2.1 x.2.1,())
def Fi.kR (n:Nat):Fi.T:=DA Fi.kS n
def BU.Kc (n:Nat):=kd 124 BU.p (Fi.kR n).1
def BU.Lv:=BU.Kc FU
def BU.k:=BU.kr (Fi.kR FU)
def Fi.RY (n:Nat):List (Bp Dop.D4):=[BU.Kc n]
theorem Fi.Ej: ∀ n,(BU.Kc n).Holds prog/\True
 | 0=>⟨AN AH BU.ok,trivial⟩
 | n+1=>by
  obtain ⟨h0,_⟩:=Fi.Ej n
  have hh: ∀ c∈Fi.RY n,c.Holds prog:=(hc h0 hn)
  exact ⟨GD AH (Ab hh (hc Ef.Kh hn)) BU.ok (fun t x=>BU.k0 (Fi.kR n) t x.1.2.1 x.2.1) (fun c=>(fun t10 t54 t55 t56 k0=>c 10 BU.VH rfl (((),t10,t54,t55,t56,()),(k0,())),())) (BU.kS (Fi.kR n)) (by kernel_rfl),
   trivial⟩
theorem BU.ID:BU.Lv.Holds prog:=(Fi.Ej FU).1
def KD.k (elem n:Int) (k0:CT):VA Int Int CT:=
 (Ef.k elem k0).bind fun y2=>
 ci (!y2.1.2.1) (OH 0 1 y2.2.1)<|
 (BU.k elem y2.2.1).bind fun y4=>
 ci (!y4.1.2.1) (OH 0 8 y4.2.1)<|
 ci (n<1) (OH 0 4 y4.2.1)<|
 ci (1024<n) (OH 0 4 y4.2.1)<|
 ck (Au (y4.1.1*n))<|
 ci (4096<y4.1.1*n) (OH 0 4 y4.2.1)<|
 (Ik.k (Dop.G4.mk 5 elem n []) y4.2.1).bind jd
def KD.Kc:=kd 160 KD.p fun x=>KD.k x.1.2.1 x.1.2.2.1 x.2.1
theorem KD.Kh:KD.Kc.Holds prog:=kh AH (hc Ef.Kh (hc BU.ID (hc Ik.Kh hn))) KD.ok (by kernel_rfl)
def Ih.k (name:List UInt8) (k0:CT):VA Int Int CT:=
 ci (name=[]) (OH 0 1 k0)<|
 (Ik.k (Dop.G4.mk 6 0 0 name) k0).bind jd
def Ih.Kc:=kd 161 Ih.p fun x=>Ih.k x.1.2.1 x.2.1
theorem Ih.Kh:Ih.Kc.Holds prog:=kh AH (hc Ik.Kh hn) Ih.ok (by kernel_rfl)
def Dd.k (n:Int) (k0:CT):R1 Bool CT:=
 (Ef.k n k0).bind fun y2=>
 ci (1<=y2.1.1.kind) (CJ (decide (y2.1.1.kind<=4)) y2.2.1)<|
 CJ false y2.2.1
def Dd.Kc:=kd 128 Dd.p fun x=>Dd.k x.1.2.1 x.2.1
theorem Dd.Kh:Dd.Kc.Holds prog:=kh AH (hc Ef.Kh hn) Dd.ok (by kernel_rfl)
def HS.KE:Env Dop.D4:=Ae prog 248 tb [Ef.Kc,BU.Lv] HS.p
def HS.k (n:Int) (name:List UInt8) (k0:CT):kb Int Int Bool CT:=HS.KE.Fm 3000 1000000 HS.p.sp (((),n,name,()),(k0,()))
def HS.Kc:=kd 248 HS.p fun x=>HS.k x.1.2.1 x.1.2.2.1 x.2.1
theorem HS.Kh:HS.Kc.Holds prog:=kh AH (hc Ef.Kh (hc BU.ID hn)) HS.ok (by kernel_rfl)
def NZ.k (n:Int) (k0:CK) (k1:CT):R2 Dop.AU CK CT:=
 let A1:=Ao (Dop.AU.mk 0 (-1) (-1) (-1) (-1) [] 0 0 0) k0 k1
 ci (n<0) A1<|
 ci (I k0.t.nodes.length<=n) A1<|
 ck (0<=n/\n<I k0.t.nodes.length)<|
 Ao (List.getD k0.t.nodes n.toNat Dop.d5) k0 k1
def NZ.Kc:=kd 74 NZ.p fun x=>NZ.k x.1.2.1 x.2.1 x.2.2.1
theorem NZ.Kh:NZ.Kc.Holds prog:=kh AH hn NZ.ok (by kernel_rfl)
def A4.k (e n:Int) (k0:CK) (k1:CT):R2 Dop.CE CK CT:=
 let A1:=Dop.CE.mk (-1) 1 0 0 false
 ci (k0.e=0) ((NZ.k n k0 k1).bind fun y3=>
 Ao A1 (CK.FE (CK.X5 y3.2.1 e) y3.1.1.at_) y3.2.2.1)<|
 Ao A1 k0 k1
def A4.Kc:=kd 123 A4.p fun x=>A4.k x.1.2.1 x.1.2.2.1 x.2.1 x.2.2.1
theorem A4.Kh:A4.Kc.Holds prog:=kh AH (hc NZ.Kh hn) A4.ok (by kernel_rfl)
def DU.k (t:Int) (k0:CK) (k1:CT):R2 Int CK CT:=
 (Ef.k t k1).bind fun y2=>
 Ao y2.1.1.kind k0 y2.2.1
def DU.Kc:=kd 127 DU.p fun x=>DU.k x.1.2.1 x.2.1 x.2.2.1
theorem DU.Kh:DU.Kc.Holds prog:=kh AH (hc Ef.Kh hn) DU.ok (by kernel_rfl)
def E7.k (t:Int) (k0:CK) (k1:CT):R2 Bool CK CT:=
 (DU.k t k0 k1).bind fun y2=>
 ci (y2.1.1=1) (Ao true y2.2.1 y2.2.2.1)<|
 ci (y2.1.1=2) (Ao true y2.2.1 y2.2.2.1)<|
 Ao (decide (y2.1.1=3)) y2.2.1 y2.2.2.1
def E7.Kc:=kd 125 E7.p fun x=>E7.k x.1.2.1 x.2.1 x.2.2.1
theorem E7.Kh:E7.Kc.Holds prog:=kh AH (hc DU.Kh hn) E7.ok (by kernel_rfl)
def F5.k (t:Int) (k0:CK) (k1:CT):ib Int Int CK CT:=
 (Ef.k t k1).bind fun y2=>
 (BU.k y2.1.1.elem y2.2.1).bind fun y3=>
 ci (!y3.1.2.1) (iz y2.1.1.elem 1 k0 y3.2.1)<|
 iz y2.1.1.elem y3.1.1 k0 y3.2.1
def F5.Kc:=kd 228 F5.p fun x=>F5.k x.1.2.1 x.2.1 x.2.2.1
theorem F5.Kh:F5.Kc.Holds prog:=kh AH (hc Ef.Kh (hc BU.ID hn)) F5.ok (by kernel_rfl)
def Mk.k (t:Int) (k0:CK) (k1:CT):R2 Bool CK CT:=
 (DU.k t k0 k1).bind fun y2=>
 ci (y2.1.1=2) (Ao true y2.2.1 y2.2.2.1)<|
 Ao (decide (y2.1.1=4)) y2.2.1 y2.2.2.1
def Mk.Kc:=kd 242 Mk.p fun x=>Mk.k x.1.2.1 x.2.1 x.2.2.1
theorem Mk.Kh:Mk.Kc.Holds prog:=kh AH (hc DU.Kh hn) Mk.ok (by kernel_rfl)
def Gy.k (a b:Int) (k0:CK) (k1:CT):R2 Int CK CT:=
 (DU.k a k0 k1).bind fun y2=>
 ci (y2.1.1=2) (Ao 2 y2.2.1 y2.2.2.1)<|
 (DU.k b y2.2.1 y2.2.2.1).bind fun y4=>
 ci (y4.1.1=2) (Ao 2 y4.2.1 y4.2.2.1)<|
 Ao 1 y4.2.1 y4.2.2.1
def Gy.Kc:=kd 240 Gy.p fun x=>Gy.k x.1.2.1 x.1.2.2.1 x.2.1 x.2.2.1
theorem Gy.Kh:Gy.Kc.Holds prog:=kh AH (hc DU.Kh hn) Gy.ok (by kernel_rfl)
def BO.k (kind a b d n:Int) (text:List UInt8) (k0:CK) (k1:CT):R2 Int CK CT:=
 ck (Cq none (room 80 (k0.nodes.length+(Dop.AU.mk kind a b d (-1) text n 0 0::[]).length)))<|
 ck (Au (I (k0.nodes++Dop.AU.mk kind a b d (-1) text n 0 0::[]).length -1))<|
 Ao (I (k0.nodes++Dop.AU.mk kind a b d (-1) text n 0 0::[]).length -1) (CK.Dx k0 (k0.nodes++Dop.AU.mk kind a b d (-1) text n 0 0::[])) k1
def BO.Kc:=kd 132 BO.p fun x=>BO.k x.1.2.1 x.1.2.2.1 x.1.2.2.2.1 x.1.2.2.2.2.1 x.1.2.2.2.2.2.1 x.1.2.2.2.2.2.2.1 x.2.1 x.2.2.1
theorem BO.Kh:BO.Kc.Holds prog:=kh AH hn BO.ok (by kernel_rfl)
def EH.k (n:Int):FN Int:=
 let A1:=IntKind.i32.wrap (IntKind.u32.wrap n)
 ck (Au A1)<|
 CW A1
def EH.Kc:=kd 126 EH.p fun x=>EH.k x.1.1
theorem EH.Kh:EH.Kc.Holds prog:=kh AH hn EH.ok (by kernel_rfl)
def Eg.k (n:Int) (k0:CK) (k1:CT):R2 Int CK CT:=
 (EH.k n).bind fun y2=>
 (BO.k 1 ((-1)) ((-1)) ((-1)) y2.1.1 [] k0 k1).bind CN
def Eg.Kc:=kd 165 Eg.p fun x=>Eg.k x.1.2.1 x.2.1 x.2.2.1
theorem Eg.Kh:Eg.Kc.Holds prog:=kh AH (hc EH.Kh (hc BO.Kh hn)) Eg.ok (by kernel_rfl)
def FL.k (n:Int) (k0:CK) (k1:CT):R2 Int CK CT:=
 (BO.k 2 ((-1)) ((-1)) ((-1)) n [] k0 k1).bind CN
def FL.Kc:=kd 134 FL.p fun x=>FL.k x.1.2.1 x.2.1 x.2.2.1
theorem FL.Kh:FL.Kc.Holds prog:=kh AH (hc BO.Kh hn) FL.ok (by kernel_rfl)
def Ii.k (n:Int) (k0:CK) (k1:CT):R2 Int CK CT:=
 let A1:=k0.f.Aw+(1:Int) -1
 ci (k0.f.Aw=4096) ((A4.k 4 n k0 k1).bind fun y3=>
 Ao 0 y3.2.1 y3.2.2.1)<|
 ck (Au (k0.f.Aw+1))<|
 ck (Au A1)<|
 Ao A1 (CK.dO k0 (Dop.EY.mk k0.f.name k0.f.params (k0.f.Aw+1) k0.f.frame k0.f.body)) k1
def Ii.Kc:=kd 164 Ii.p fun x=>Ii.k x.1.2.1 x.2.1 x.2.2.1
theorem Ii.Kh:Ii.Kc.Holds prog:=kh AH (hc A4.Kh hn) Ii.ok (by kernel_rfl)
def Im.k (t:Int) (k0:CK) (k1:CT):R2 Int CK CT:=
 (Ig.k t k1).bind fun y2=>
 Ao y2.1.1 k0 y2.2.1
def Im.Kc:=kd 238 Im.p fun x=>Im.k x.1.2.1 x.2.1 x.2.2.1
theorem Im.Kh:Im.Kc.Holds prog:=kh AH (hc Ig.Kh hn) Im.ok (by kernel_rfl)
def KF.k (a:Int) (k0:CK) (k1:CT):R2 Int CK CT:=
 (BO.k 4 a ((-1)) ((-1)) 0 [] k0 k1).bind CN
def KF.Kc:=kd 239 KF.p fun x=>KF.k x.1.2.1 x.2.1 x.2.2.1
theorem KF.Kh:KF.Kc.Holds prog:=kh AH (hc BO.Kh hn) KF.ok (by kernel_rfl)
def Il.k (a t:Int) (k0:CK) (k1:CT):R2 Dop.CE CK CT:=
 (DU.k t k0 k1).bind fun y2=>
 ci (y2.1.1=5) ((F5.k t y2.2.1 y2.2.2.1).bind fun y4=>
 (Im.k y4.1.1 y4.2.1 y4.2.2.1).bind fun y5=>
 Ao (Dop.CE.mk a y5.1.1 0 0 false) y5.2.1 y5.2.2.1)<|
 ci (y2.1.1=6) (Ao (Dop.CE.mk a t 2 a false) y2.2.1 y2.2.2.1)<|
 (KF.k a y2.2.1 y2.2.2.1).bind fun y5=>
 Ao (Dop.CE.mk y5.1.1 t 2 a false) y5.2.1 y5.2.2.1
def Il.Kc:=kd 217 Il.p fun x=>Il.k x.1.2.1 x.1.2.2.1 x.2.1 x.2.2.1
theorem Il.Kh:Il.Kc.Holds prog:=kh AH (hc DU.Kh (hc F5.Kh (hc Im.Kh (hc KF.Kh hn)))) Il.ok (by kernel_rfl)
def GY.k (p:Dop.DP) (k0:CK) (k1:CT):R2 Int CK CT:=
 ci (p.kind=3) ((BO.k 3 ((-1)) ((-1)) ((-1)) p.n [] k0 k1).bind CN)<|
 (Eg.k p.n k0 k1).bind CN
def GY.Kc:=kd 133 GY.p fun x=>GY.k x.1.2.1 x.2.1 x.2.2.1
theorem GY.Kh:GY.Kc.Holds prog:=kh AH (hc BO.Kh (hc Eg.Kh hn)) GY.ok (by kernel_rfl)
def HQ.k (op a:Int) (k0:CK) (k1:CT):R2 Int CK CT:=
 (BO.k 7 a ((-1)) ((-1)) op [] k0 k1).bind CN
def HQ.Kc:=kd 229 HQ.p fun x=>HQ.k x.1.2.1 x.1.2.2.1 x.2.1 x.2.2.1
theorem HQ.Kh:HQ.Kc.Holds prog:=kh AH (hc BO.Kh hn) HQ.ok (by kernel_rfl)
def HR.k (r a:Int) (k0:CK) (k1:CT):R2 Int CK CT:=
 (BO.k 6 a ((-1)) ((-1)) r [] k0 k1).bind CN
def HR.Kc:=kd 230 HR.p fun x=>HR.k x.1.2.1 x.1.2.2.1 x.2.1 x.2.2.1
theorem HR.Kh:HR.Kc.Holds prog:=kh AH (hc BO.Kh hn) HR.ok (by kernel_rfl)
def CU.k (kind a b d e n:Int) (text:List UInt8) (k0:CK) (k1:CT):R2 Int CK CT:=
 ck (Cq none (room 80 (k0.nodes.length+(Dop.AU.mk kind a b d e text n 0 0::[]).length)))<|
 ck (Au (I (k0.nodes++Dop.AU.mk kind a b d e text n 0 0::[]).length -1))<|
 Ao (I (k0.nodes++Dop.AU.mk kind a b d e text n 0 0::[]).length -1) (CK.Dx k0 (k0.nodes++Dop.AU.mk kind a b d e text n 0 0::[])) k1
def CU.Kc:=kd 131 CU.p fun x=>CU.k x.1.2.1 x.1.2.2.1 x.1.2.2.2.1 x.1.2.2.2.2.1 x.1.2.2.2.2.2.1 x.1.2.2.2.2.2.2.1 x.1.2.2.2.2.2.2.2.1 x.2.1 x.2.2.1
theorem CU.Kh:CU.Kc.Holds prog:=kh AH hn CU.ok (by kernel_rfl)
abbrev PI.T:Type:=Int->Int->Bool->Int->Int->Bool->CK->CT->Dop.CE->R2 Int CK CT
abbrev La.T:Type:=Int->Int->Int->Bool->CK->CT->Dop.CE->R2 Int CK CT
abbrev Bl.KT:Type:=PI.T×La.T×Unit
def PI.kB (tK:Bl.KT):PI.T:=fun t2 t3 t4 t11 t12 t13 k0 k1 b2=>
 ci (t12=4) ((E7.k b2.EM k0 k1).bind fun y3=>
 let z1:R2 Int CK CT:=
 (Dd.k b2.EM y3.2.2.1).bind fun y6=>
 ci y6.1.1 ((Dd.k t2 y6.2.1).bind fun y8=>
 tK.2.1 t3 t11 t12 y8.1.1 y3.2.1 y8.2.1 b2)<|
 tK.2.1 t3 t11 t12 false y3.2.1 y6.2.1 b2
 ci y3.1.1 (ci t4 (z1)<|
 tK.2.1 t3 t11 t12 b2.zero y3.2.1 y3.2.2.1 b2)<|
 ci t4 (z1)<|
 tK.2.1 t3 t11 t12 t13 y3.2.1 y3.2.2.1 b2)<|
 ci t4 ((Dd.k b2.EM k1).bind fun y4=>
 ci y4.1.1 ((Dd.k t2 y4.2.1).bind fun y6=>
 tK.2.1 t3 t11 t12 y6.1.1 k0 y6.2.1 b2)<|
 tK.2.1 t3 t11 t12 false k0 y4.2.1 b2)<|
 tK.2.1 t3 t11 t12 t13 k0 k1 b2
def La.kB (tK:Bl.KT):La.T:=fun t3 t11 t12 t13 k0 k1 b2=>
 ci (!t13) ((A4.k 8 t3 k0 k1).bind fun y3=>
 Ao y3.1.1.n y3.2.1 y3.2.2.1)<|
 ci (t12=3) (ci (!(t11=3)) ((HQ.k 22 b2.n k0 k1).bind CN)<|
 Ao b2.n k0 k1)<|
 Ao b2.n k0 k1
def Bl.kS (tK:Bl.KT):Bl.KT:=(PI.kB tK,La.kB tK,())
def Bl.kL (n:Nat):Bl.KT:=DA Bl.kS n
def Bl.k0 (tK:Bl.KT) (t1:Dop.CE) (t2 t3:Int) (t4:Bool) (k0:CK) (k1:CT):R2 Int CK CT:=
 (DU.k t1.EM k0 k1).bind fun y2=>
 (DU.k t2 y2.2.1 y2.2.2.1).bind fun y3=>
 (E7.k t1.EM y3.2.1 y3.2.2.1).bind fun y4=>
 ci y4.1.1 ((E7.k t2 y4.2.1 y4.2.2.1).bind fun y6=>
 ci (y2.1.1=4) (ci (y3.1.1=4) ((F5.k t1.EM y6.2.1 y6.2.2.1).bind fun y9=>
 (F5.k t2 y9.2.1 y9.2.2.1).bind fun y10=>
 ci (t1.EM=t2) (tK.1 t2 t3 t4 y2.1.1 y3.1.1 true y10.2.1 y10.2.2.1 t1)<|
 ci (y9.1.1=0) (tK.1 t2 t3 t4 y2.1.1 y3.1.1 true y10.2.1 y10.2.2.1 t1)<|
 tK.1 t2 t3 t4 y2.1.1 y3.1.1 (decide (y10.1.1=0)) y10.2.1 y10.2.2.1 t1)<|
 tK.1 t2 t3 t4 y2.1.1 y3.1.1 y6.1.1 y6.2.1 y6.2.2.1 t1)<|
 tK.1 t2 t3 t4 y2.1.1 y3.1.1 y6.1.1 y6.2.1 y6.2.2.1 t1)<|
 ci (y2.1.1=4) (ci (y3.1.1=4) ((F5.k t1.EM y4.2.1 y4.2.2.1).bind fun y8=>
 (F5.k t2 y8.2.1 y8.2.2.1).bind fun y9=>
 ci (t1.EM=t2) (tK.1 t2 t3 t4 y2.1.1 y3.1.1 true y9.2.1 y9.2.2.1 t1)<|
 ci (y8.1.1=0) (tK.1 t2 t3 t4 y2.1.1 y3.1.1 true y9.2.1 y9.2.2.1 t1)<|
 tK.1 t2 t3 t4 y2.1.1 y3.1.1 (decide (y9.1.1=0)) y9.2.1 y9.2.2.1 t1)<|
 tK.1 t2 t3 t4 y2.1.1 y3.1.1 false y4.2.1 y4.2.2.1 t1)<|
 tK.1 t2 t3 t4 y2.1.1 y3.1.1 false y4.2.1 y4.2.2.1 t1
def Bl.k (t1:Dop.CE) (t2 t3:Int) (t4:Bool) (k0:CK) (k1:CT):R2 Int CK CT:=Bl.k0 (Bl.kL 1000000) t1 t2 t3 t4 k0 k1
def Bl.Kc:=kd 195 Bl.p fun x=>Bl.k x.1.2.1 x.1.2.2.1 x.1.2.2.2.1 x.1.2.2.2.2.1 x.2.1 x.2.2.1
theorem Bl.Kh:Bl.Kc.Holds prog:=GD AH (hc DU.Kh (hc E7.Kh (hc F5.Kh (hc Dd.Kh (hc A4.Kh (hc HQ.Kh hn)))))) Bl.ok (fun t x=>Bl.k0 t x.1.2.1 x.1.2.2.1 x.1.2.2.2.1 x.1.2.2.2.2.1 x.2.1 x.2.2.1) (fun c=>(fun t2 t3 t4 t11 t12 t13 k0 k1 b2=>c 7 Bl.q7 rfl (((),t2,t3,t4,(),t11,t12,t13,()),(k0,k1,(b2,()),())),fun t3 t11 t12 t13 k0 k1 b2=>c 11 Bl.c9 rfl (((),t3,(),t11,t12,t13,()),(k0,k1,(b2,()),())),())) Bl.kS (by kernel_rfl)
def Io.k (op a b:Int) (k0:CK) (k1:CT):R2 Int CK CT:=
 (BO.k 8 a b ((-1)) op [] k0 k1).bind CN
def Io.Kc:=kd 243 Io.p fun x=>Io.k x.1.2.1 x.1.2.2.1 x.1.2.2.2.1 x.2.1 x.2.2.1
theorem Io.Kh:Io.Kc.Holds prog:=kh AH (hc BO.Kh hn) Io.ok (by kernel_rfl)
def Ml.k (n size:Int) (k0:CK) (k1:CT):R2 Int CK CT:=
 ci (size=1) (Ao n k0 k1)<|
 (Eg.k size k0 k1).bind fun y3=>
 (Io.k 3 n y3.1.1 y3.2.1 y3.2.2.1).bind CN
def Ml.Kc:=kd 244 Ml.p fun x=>Ml.k x.1.2.1 x.1.2.2.1 x.2.1 x.2.2.1
theorem Ml.Kh:Ml.Kc.Holds prog:=kh AH (hc Eg.Kh (hc Io.Kh hn)) Ml.ok (by kernel_rfl)
abbrev PB.T:Type:=Int->Int->Int->CK->CT->R2 Int CK CT
abbrev LB.T:Type:=Int->Int->Int->Int->Int->CK->CT->R2 Int CK CT
abbrev Cz.KT:Type:=PB.T×LB.T×Unit
def PB.kB (tK:Cz.KT):PB.T:=fun t1 t2 t7 k0 k1=>
 let A1:=List.getD k0.t.types t7.toNat Dop.d6
 let A2:=List.getD k0.num A1.elem.toNat 0
 let z1:R2 Int CK CT:=
 ck (0<=t1/\t1<I k0.num.length)<|
 ck (t1.toNat<k0.num.length)<|
 Ao (List.getD k0.num t1.toNat 0) k0 k1
 ci (t7<=t1) (ci (t7<I k0.t.types.length) (ck (0<=t7/\t7<I k0.t.types.length)<|
 ci (A1.kind=4) (ck (0<=A1.elem/\A1.elem<I k0.num.length)<|
 ck (A1.elem.toNat<k0.num.length)<|
 (Ig.k A2 k1).bind fun y5=>
 tK.2.1 t1 t2 t7 y5.1.1 y5.1.2.1 k0 y5.2.1)<|
 ci (A1.kind=5) (ck (0<=A1.elem/\A1.elem<I k0.num.length)<|
 ck (A1.elem.toNat<k0.num.length)<|
 (KD.k A2 (A1.n) k1).bind fun y6=>
 tK.2.1 t1 t2 t7 y6.1.1 y6.1.2.1 k0 y6.2.1)<|
 ci (A1.kind=6) ((Ih.k (A1.name) k1).bind fun y7=>
 tK.2.1 t1 t2 t7 y7.1.1 y7.1.2.1 k0 y7.2.1)<|
 tK.2.1 t1 t2 t7 t7 0 k0 k1)<|
 z1)<|
 z1
def LB.kB (tK:Cz.KT):LB.T:=fun t1 t2 t7 t9 t10 k0 k1=>
 ci (!(t10=0)) ((A4.k t10 t2 k0 k1).bind fun y3=>
 Ao 1 y3.2.1 y3.2.2.1)<|
 ck (Cq none (room 8 (k0.num.length+(t9::[]).length)))<|
 ck (Au (t7+1))<|
 tK.1 t1 t2 (t7+1) ((CK.NJ k0 (k0.num++t9::[]))) k1
def Cz.kS (tK:Cz.KT):Cz.KT:=(PB.kB tK,LB.kB tK,())
def Cz.kL (n:Nat):Cz.KT:=DA Cz.kS n
def Cz.k0 (tK:Cz.KT) (t1 t2:Int) (k0:CK) (k1:CT):R2 Int CK CT:=
 tK.1 t1 t2 (I k0.num.length) k0 k1
def Cz.k (t1 t2:Int) (k0:CK) (k1:CT):R2 Int CK CT:=Cz.k0 (Cz.kL 1000000) t1 t2 k0 k1
def Cz.Kc:=kd 121 Cz.p fun x=>Cz.k x.1.2.1 x.1.2.2.1 x.2.1 x.2.2.1
theorem Cz.Kh:Cz.Kc.Holds prog:=GD AH (hc Ig.Kh (hc KD.Kh (hc Ih.Kh (hc A4.Kh hn)))) Cz.ok (fun t x=>Cz.k0 t x.1.2.1 x.1.2.2.1 x.2.1 x.2.2.1) (fun c=>(fun t1 t2 t7 k0 k1=>c 2 Cz.q2 rfl (((),t1,t2,t7,()),(k0,k1,())),fun t1 t2 t7 t9 t10 k0 k1=>c 13 Cz.YU rfl (((),t1,t2,t7,t9,t10,()),(k0,k1,())),())) Cz.kS (by kernel_rfl)
def IA.k (v:Dop.CE) (at_:Int) (k0:CK) (k1:CT):R2 Dop.CE CK CT:=
 ci (!(k0.e=0)) ((A4.k 8 at_ k0 k1).bind CN)<|
 (DU.k v.EM k0 k1).bind fun y3=>
 ci (!(y3.1.1=4)) ((A4.k 8 at_ y3.2.1 y3.2.2.1).bind CN)<|
 (F5.k v.EM y3.2.1 y3.2.2.1).bind fun y5=>
 (BU.k y5.1.1 y5.2.2.1).bind fun y6=>
 ci (!y6.1.2.1) ((A4.k 8 at_ y5.2.1 y6.2.1).bind CN)<|
 (Il.k v.n y5.1.1 y5.2.1 y6.2.1).bind CN
def IA.Kc:=kd 225 IA.p fun x=>IA.k x.1.2.1 x.1.2.2.1 x.2.1 x.2.2.1
theorem IA.Kh:IA.Kc.Holds prog:=kh AH (hc DU.Kh (hc A4.Kh (hc F5.Kh (hc BU.ID (hc Il.Kh hn))))) IA.ok (by kernel_rfl)
def HP.KE:Env Dop.D4:=Ae prog 224 tb [E7.Kc,Gy.Kc,DU.Kc,A4.Kc,BO.Kc] HP.p
def HP.k (t1 t2 t3:Dop.CE) (t4:Int) (k0:CK) (k1:CT):R2 Dop.CE CK CT:=HP.KE.Fm 3000 1000000 HP.p.sp (((),t1,t2,t3,t4,()),(k0,k1,()))
def HP.Kc:=kd 224 HP.p fun x=>HP.k x.1.2.1 x.1.2.2.1 x.1.2.2.2.1 x.1.2.2.2.2.1 x.2.1 x.2.2.1
theorem HP.Kh:HP.Kc.Holds prog:=kh AH (hc E7.Kh (hc Gy.Kh (hc DU.Kh (hc A4.Kh (hc BO.Kh hn))))) HP.ok (by kernel_rfl)
def KH.k (ahead n:Int) (k0:CK) (k1:CT):R2 Int CK CT:=
 ci (ahead<0) (Ao n k0 k1)<|
 (BO.k 15 ahead n ((-1)) 0 [] k0 k1).bind CN
def KH.Kc:=kd 246 KH.p fun x=>KH.k x.1.2.1 x.1.2.2.1 x.2.1 x.2.2.1
theorem KH.Kh:KH.Kc.Holds prog:=kh AH (hc BO.Kh hn) KH.ok (by kernel_rfl)
def Gw.k (l:Dop.CE) (n:Int) (k0:CK) (k1:CT):R2 Int CK CT:=
 ci (l.left=1) ((HR.k l.at_ n k0 k1).bind CN)<|
 (BO.k 5 l.at_ n ((-1)) 0 [] k0 k1).bind CN
def Gw.Kc:=kd 196 Gw.p fun x=>Gw.k x.1.2.1 x.1.2.2.1 x.2.1 x.2.2.1
theorem Gw.Kh:Gw.Kc.Holds prog:=kh AH (hc HR.Kh (hc BO.Kh hn)) Gw.ok (by kernel_rfl)
def Mj.k :FN (List (List UInt8×Dop.OU)):=
 CW (CY (CY (CY (CY (CY (CY (CY (CY (CY (CY (CY (CY (CY (CY (CY (CY (([]:List (List UInt8×Dop.OU))) ([43]:List UInt8) (Dop.OU.mk 1 1)) ([45]:List UInt8) (Dop.OU.mk 2 2)) ([42]:List UInt8) (Dop.OU.mk 3 3)) ([47]:List UInt8) (Dop.OU.mk 4 6)) ([37]:List UInt8) (Dop.OU.mk 5 7)) ([38]:List UInt8) (Dop.OU.mk 8 8)) ([124]:List UInt8) (Dop.OU.mk 9 9)) ([94]:List UInt8) (Dop.OU.mk 10 10)) ([60,60]:List UInt8) (Dop.OU.mk 11 11)) ([62,62]:List UInt8) (Dop.OU.mk 12 13)) ([61,61]:List UInt8) (Dop.OU.mk 14 14)) ([33,61]:List UInt8) (Dop.OU.mk 15 15)) ([60]:List UInt8) (Dop.OU.mk 16 18)) ([60,61]:List UInt8) (Dop.OU.mk 17 19)) ([62]:List UInt8) (Dop.OU.mk 16 18)) ([62,61]:List UInt8) (Dop.OU.mk 17 19))
def Mj.Kc:=kd 241 Mj.p fun x=>Mj.k
theorem Mj.Kh:Mj.Kc.Holds prog:=kh AH hn Mj.ok (by kernel_rfl)
def KG.k (l:Dop.CE) (at_:Int) (k0:CK) (k1:CT):ib Int Dop.CE CK CT:=
 ci (!(l.left=2)) (iz (-1) l k0 k1)<|
 (Ii.k at_ k0 k1).bind fun y3=>
 (HR.k y3.1.1 l.at_ y3.2.1 y3.2.2.1).bind fun y4=>
 (FL.k y3.1.1 y4.2.1 y4.2.2.1).bind fun y5=>
 (FL.k y3.1.1 y5.2.1 y5.2.2.1).bind fun y6=>
 (KF.k y6.1.1 y6.2.1 y6.2.2.1).bind fun y7=>
 iz y4.1.1 (Dop.CE.mk y7.1.1 l.EM 2 y5.1.1 false) y7.2.1 y7.2.2.1
def KG.Kc:=kd 245 KG.p fun x=>KG.k x.1.2.1 x.1.2.2.1 x.2.1 x.2.2.1
theorem KG.Kh:KG.Kc.Holds prog:=kh AH (hc Ii.Kh (hc HR.Kh (hc FL.Kh (hc KF.Kh hn)))) KG.ok (by kernel_rfl)
def Dg.KE:Env Dop.D4:=Ae prog 219 tb [DU.Kc,Mj.Kc,contains.c,Mk.Kc,A4.Kc,Io.Kc,F5.Kc,Eg.Kc,Ml.Kc,Gy.Kc] Dg.p
def Dg.k (t1:List UInt8) (t2 t3:Dop.CE) (t4:Int) (k0:CK) (k1:CT):R2 Dop.CE CK CT:=Dg.KE.Fm 3000 1000000 Dg.p.sp (((),t1,t2,t3,t4,()),(k0,k1,()))
def Dg.Kc:=kd 219 Dg.p fun x=>Dg.k x.1.2.1 x.1.2.2.1 x.1.2.2.2.1 x.1.2.2.2.2.1 x.2.1 x.2.2.1
theorem Dg.Kh:Dg.Kc.Holds prog:=kh AH (hc DU.Kh (hc Mj.Kh (hc contains.holds (hc Mk.Kh (hc A4.Kh (hc Io.Kh (hc F5.Kh (hc Eg.Kh (hc Ml.Kh (hc Gy.Kh hn)))))))))) Dg.ok (by kernel_rfl)
end
end Go.Proofs.Tryz
