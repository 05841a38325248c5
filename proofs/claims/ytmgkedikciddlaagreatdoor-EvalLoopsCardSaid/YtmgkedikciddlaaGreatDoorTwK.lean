/-
 Functions in plain words (what their equations say), and their contracts. Written by a program.
-/
import Derived.Test.YtmgkedikciddlaaGreatDoorTwD
import Derived.Test.YtmgkedikciddlaaGreatDoorMm
set_option linter.all false
set_option maxRecDepth 100000
set_option maxHeartbeats 4000000
namespace Go.Proofs.Tryz
open Go Go.En
noncomputable section
def E4.k (n:Int) (k0:CT):WS Dop.HM Bool CT:=
 let A1:=O6 (Dop.HM.mk 0 0 0 []) false k0
 ci (n<0) A1<|
 ci (I k0.l.length<=n) A1<|
 ck (0<=n/\n<I k0.l.length)<|
 ck (n.toNat<k0.l.length)<|
 O6 (List.getD k0.l n.toNat Dop.d6) true k0
def E4.Kc:=kd 93 E4.p fun x=>E4.k x.1.2.1 x.2.1
theorem E4.Kh:E4.Kc.Holds prog:=kh AI hn E4.ok (by kernel_rfl)
def JL.k (x:Dop.HM) (k0:CT):WS Int Int CT:=
 (Dy.k k0.l x).bind fun y2=>
 ci (0<=y2.1.1) (O6 y2.1.1 0 k0)<|
 ci (I k0.l.length=256) (O6 0 4 k0)<|
 ck (DG none (room 40 (k0.l.length+(x::[]).length)))<|
 ck (BI (I (k0.l++x::[]).length -1))<|
 O6 (I (k0.l++x::[]).length -1) 0 (CT.oH k0 (k0.l++x::[]))
def JL.Kc:=kd 121 JL.p fun x=>JL.k x.1.2.1 x.2.1
theorem JL.Kh:JL.Kc.Holds prog:=kh AI (hc Dy.Kh hn) JL.ok (by kernel_rfl)
def JI.k (elem:Int) (k0:CT):WS Int Int CT:=
 (E4.k elem k0).bind fun y2=>
 ci (!y2.1.2.1) (O6 0 1 y2.2.1)<|
 (JL.k (Dop.HM.mk 4 elem 0 []) y2.2.1).bind nG
def JI.Kc:=kd 89 JI.p fun x=>JI.k x.1.2.1 x.2.1
theorem JI.Kh:JI.Kc.Holds prog:=kh AI (hc E4.Kh (hc JL.Kh hn)) JI.ok (by kernel_rfl)
abbrev Bh.kr (r:GG.T) (t1:Int) (k0:CT):WS Int Bool CT:=r.1 (((),t1,()),(k0,()))
abbrev Lx.T:Type:=Int->List Dop.WY->Int->Int->CT->WS Int Bool CT
abbrev Bh.KT:Type:=Lx.T×Unit
def Lx.kB (rK:GG.T) (tK:Bh.KT):Lx.T:=fun t10 t54 t55 t56 k0=>
 ci (t56<t55) (ck (0<=t56/\t56<I t54.length)<|
 (Bh.kr rK ((List.getD t54 t56.toNat Dop.d16).CG) k0).bind fun y3=>
 ck (BI (t10+y3.1.1))<|
 ck (BI (t56+1))<|
 tK.1 (t10+y3.1.1) t54 t55 (t56+1) y3.2.1)<|
 O6 t10 (decide (0<t10)) k0
def Bh.kS (rK:GG.T) (tK:Bh.KT):Bh.KT:=(Lx.kB rK tK,())
def Bh.kL (rK:GG.T) (n:Nat):Bh.KT:=Bp (Bh.kS rK) n
def Bh.k0 (rK:GG.T) (tK:Bh.KT) (t1:Int) (k0:CT):WS Int Bool CT:=
 (E4.k t1 k0).bind fun y2=>
 ci (!y2.1.2.1) (O6 0 false y2.2.1)<|
 ci (y2.1.1.kind=0) (O6 0 false y2.2.1)<|
 ci (y2.1.1.kind=5) ((Bh.kr rK y2.1.1.elem y2.2.1).bind fun y6=>
 ck (BI (y6.1.1*y2.1.1.n))<|
 O6 (y6.1.1*y2.1.1.n) true y6.2.1)<|
 ci (y2.1.1.kind=6) (tK.1 0 ((AO (CT.fields y2.2.1) y2.1.1.name).getD []) (I ((AO (CT.fields y2.2.1) y2.1.1.name).getD []).length) 0 y2.2.1)<|
 O6 1 true y2.2.1
def Bh.kf (rK:GG.T) (t1:Int) (k0:CT):WS Int Bool CT:=Bh.k0 rK (Bh.kL rK 1000000) t1 k0
def GG.kS (r:GG.T):GG.T:=(fun x=>Bh.kf r x.1.2.1 x.2.1,())
def GG.kR (n:Nat):GG.T:=Bp GG.kS n
def Bh.Kc (n:Nat):=kd 49 Bh.p (GG.kR n).1
def Bh.LZ:=Bh.Kc FU
def Bh.k:=Bh.kr (GG.kR FU)
def GG.Si (n:Nat):List (B2 Dop.D4):=[Bh.Kc n]
theorem GG.FD: ∀ n,(Bh.Kc n).Holds prog/\True
 | 0=>⟨AP AI Bh.ok,trivial⟩
 | n+1=>by
  obtain ⟨h0,_⟩:=GG.FD n
  have hh: ∀ c∈GG.Si n,c.Holds prog:=(hc h0 hn)
  exact ⟨Fx AI (Af hh (hc E4.Kh hn)) Bh.ok (fun t x=>Bh.k0 (GG.kR n) t x.1.2.1 x.2.1) (fun c=>(fun t10 t54 t55 t56 k0=>c 10 Bh.VE rfl (((),t10,t54,t55,t56,()),(k0,())),())) (Bh.kS (GG.kR n)) (by kernel_rfl),
   trivial⟩
theorem Bh.Ip:Bh.LZ.Holds prog:=(GG.FD FU).1
def Kq.k (elem n:Int) (k0:CT):WS Int Int CT:=
 (E4.k elem k0).bind fun y2=>
 ci (!y2.1.2.1) (O6 0 1 y2.2.1)<|
 (Bh.k elem y2.2.1).bind fun y4=>
 ci (!y4.1.2.1) (O6 0 8 y4.2.1)<|
 ci (n<1) (O6 0 4 y4.2.1)<|
 ci (1024<n) (O6 0 4 y4.2.1)<|
 ck (BI (y4.1.1*n))<|
 ci (4096<y4.1.1*n) (O6 0 4 y4.2.1)<|
 (JL.k (Dop.HM.mk 5 elem n []) y4.2.1).bind nG
def Kq.Kc:=kd 90 Kq.p fun x=>Kq.k x.1.2.1 x.1.2.2.1 x.2.1
theorem Kq.Kh:Kq.Kc.Holds prog:=kh AI (hc E4.Kh (hc Bh.Ip (hc JL.Kh hn))) Kq.ok (by kernel_rfl)
def JJ.k (name:List UInt8) (k0:CT):WS Int Int CT:=
 ci (name=[]) (O6 0 1 k0)<|
 (JL.k (Dop.HM.mk 6 0 0 name) k0).bind nG
def JJ.Kc:=kd 91 JJ.p fun x=>JJ.k x.1.2.1 x.2.1
theorem JJ.Kh:JJ.Kc.Holds prog:=kh AI (hc JL.Kh hn) JJ.ok (by kernel_rfl)
def De.k (n:Int) (k0:CT):R1 Bool CT:=
 (E4.k n k0).bind fun y2=>
 ci (1<=y2.1.1.kind) (Co (decide (y2.1.1.kind<=4)) y2.2.1)<|
 Co false y2.2.1
def De.Kc:=kd 53 De.p fun x=>De.k x.1.2.1 x.2.1
theorem De.Kh:De.Kc.Holds prog:=kh AI (hc E4.Kh hn) De.ok (by kernel_rfl)
def Hy.KE:Env Dop.D4:=Au prog 189 tb [E4.Kc,Bh.LZ] Hy.p
def Hy.k (n:Int) (name:List UInt8) (k0:CT):oP Int Int Bool CT:=Hy.KE.KJ 3000 1000000 Hy.p.sp (((),n,name,()),(k0,()))
def Hy.Kc:=kd 189 Hy.p fun x=>Hy.k x.1.2.1 x.1.2.2.1 x.2.1
theorem Hy.Kh:Hy.Kc.Holds prog:=kh AI (hc E4.Kh (hc Bh.Ip hn)) Hy.ok (by kernel_rfl)
def OJ.k (n:Int) (k0:CK) (k1:CT):R2 Dop.Ab CK CT:=
 let A1:=Aa (Dop.Ab.mk 0 (-1) (-1) (-1) (-1) [] 0 0 0) k0 k1
 ci (n<0) A1<|
 ci (I k0.t.nodes.length<=n) A1<|
 ck (0<=n/\n<I k0.t.nodes.length)<|
 Aa (List.getD k0.t.nodes n.toNat Dop.d5) k0 k1
def OJ.Kc:=kd 26 OJ.p fun x=>OJ.k x.1.2.1 x.2.1 x.2.2.1
theorem OJ.Kh:OJ.Kc.Holds prog:=kh AI hn OJ.ok (by kernel_rfl)
def Az.k (e n:Int) (k0:CK) (k1:CT):R2 Dop.Ag CK CT:=
 let A1:=Dop.Ag.mk (-1) 1 0 0 false
 ci (k0.e=0) ((OJ.k n k0 k1).bind fun y3=>
 Aa A1 (CK.Fj (CK.ZU y3.2.1 e) y3.1.1.at_) y3.2.2.1)<|
 Aa A1 k0 k1
def Az.Kc:=kd 48 Az.p fun x=>Az.k x.1.2.1 x.1.2.2.1 x.2.1 x.2.2.1
theorem Az.Kh:Az.Kc.Holds prog:=kh AI (hc OJ.Kh hn) Az.ok (by kernel_rfl)
def Cz.k (t:Int) (k0:CK) (k1:CT):R2 Int CK CT:=
 (E4.k t k1).bind fun y2=>
 Aa y2.1.1.kind k0 y2.2.1
def Cz.Kc:=kd 52 Cz.p fun x=>Cz.k x.1.2.1 x.2.1 x.2.2.1
theorem Cz.Kh:Cz.Kc.Holds prog:=kh AI (hc E4.Kh hn) Cz.ok (by kernel_rfl)
def Dx.k (t:Int) (k0:CK) (k1:CT):R2 Bool CK CT:=
 (Cz.k t k0 k1).bind fun y2=>
 ci (y2.1.1=1) (Aa true y2.2.1 y2.2.2.1)<|
 ci (y2.1.1=2) (Aa true y2.2.1 y2.2.2.1)<|
 Aa (decide (y2.1.1=3)) y2.2.1 y2.2.2.1
def Dx.Kc:=kd 50 Dx.p fun x=>Dx.k x.1.2.1 x.2.1 x.2.2.1
theorem Dx.Kh:Dx.Kc.Holds prog:=kh AI (hc Cz.Kh hn) Dx.ok (by kernel_rfl)
def GK.k (t:Int) (k0:CK) (k1:CT):Wc Int Int CK CT:=
 (E4.k t k1).bind fun y2=>
 (Bh.k y2.1.1.elem y2.2.1).bind fun y3=>
 ci (!y3.1.2.1) (R9 y2.1.1.elem 1 k0 y3.2.1)<|
 R9 y2.1.1.elem y3.1.1 k0 y3.2.1
def GK.Kc:=kd 157 GK.p fun x=>GK.k x.1.2.1 x.2.1 x.2.2.1
theorem GK.Kh:GK.Kc.Holds prog:=kh AI (hc E4.Kh (hc Bh.Ip hn)) GK.ok (by kernel_rfl)
def J8.k (t:Int) (k0:CK) (k1:CT):R2 Bool CK CT:=
 (Cz.k t k0 k1).bind fun y2=>
 ci (y2.1.1=2) (Aa true y2.2.1 y2.2.2.1)<|
 Aa (decide (y2.1.1=4)) y2.2.1 y2.2.2.1
def J8.Kc:=kd 183 J8.p fun x=>J8.k x.1.2.1 x.2.1 x.2.2.1
theorem J8.Kh:J8.Kc.Holds prog:=kh AI (hc Cz.Kh hn) J8.ok (by kernel_rfl)
def HD.k (a b:Int) (k0:CK) (k1:CT):R2 Int CK CT:=
 (Cz.k a k0 k1).bind fun y2=>
 ci (y2.1.1=2) (Aa 2 y2.2.1 y2.2.2.1)<|
 (Cz.k b y2.2.1 y2.2.2.1).bind fun y4=>
 ci (y4.1.1=2) (Aa 2 y4.2.1 y4.2.2.1)<|
 Aa 1 y4.2.1 y4.2.2.1
def HD.Kc:=kd 181 HD.p fun x=>HD.k x.1.2.1 x.1.2.2.1 x.2.1 x.2.2.1
theorem HD.Kh:HD.Kc.Holds prog:=kh AI (hc Cz.Kh hn) HD.ok (by kernel_rfl)
def Bd.k (kind a b d n:Int) (text:List UInt8) (k0:CK) (k1:CT):R2 Int CK CT:=
 ck (DG none (room 80 (k0.nodes.length+(Dop.Ab.mk kind a b d (-1) text n 0 0::[]).length)))<|
 ck (BI (I (k0.nodes++Dop.Ab.mk kind a b d (-1) text n 0 0::[]).length -1))<|
 Aa (I (k0.nodes++Dop.Ab.mk kind a b d (-1) text n 0 0::[]).length -1) (CK.FK k0 (k0.nodes++Dop.Ab.mk kind a b d (-1) text n 0 0::[])) k1
def Bd.Kc:=kd 57 Bd.p fun x=>Bd.k x.1.2.1 x.1.2.2.1 x.1.2.2.2.1 x.1.2.2.2.2.1 x.1.2.2.2.2.2.1 x.1.2.2.2.2.2.2.1 x.2.1 x.2.2.1
theorem Bd.Kh:Bd.Kc.Holds prog:=kh AI hn Bd.ok (by kernel_rfl)
def Er.k (n:Int):Fs Int:=
 let A1:=IntKind.i32.wrap (IntKind.u32.wrap n)
 ck (BI A1)<|
 Cn A1
def Er.Kc:=kd 51 Er.p fun x=>Er.k x.1.1
theorem Er.Kh:Er.Kc.Holds prog:=kh AI hn Er.ok (by kernel_rfl)
def E5.k (n:Int) (k0:CK) (k1:CT):R2 Int CK CT:=
 (Er.k n).bind fun y2=>
 (Bd.k 1 ((-1)) ((-1)) ((-1)) y2.1.1 [] k0 k1).bind BQ
def E5.Kc:=kd 95 E5.p fun x=>E5.k x.1.2.1 x.2.1 x.2.2.1
theorem E5.Kh:E5.Kc.Holds prog:=kh AI (hc Er.Kh (hc Bd.Kh hn)) E5.ok (by kernel_rfl)
def ET.k (n:Int) (k0:CK) (k1:CT):R2 Int CK CT:=
 (Bd.k 2 ((-1)) ((-1)) ((-1)) n [] k0 k1).bind BQ
def ET.Kc:=kd 59 ET.p fun x=>ET.k x.1.2.1 x.2.1 x.2.2.1
theorem ET.Kh:ET.Kc.Holds prog:=kh AI (hc Bd.Kh hn) ET.ok (by kernel_rfl)
def JK.k (n:Int) (k0:CK) (k1:CT):R2 Int CK CT:=
 let A1:=k0.f.Ai+(1:Int) -1
 ci (k0.f.Ai=4096) ((Az.k 4 n k0 k1).bind fun y3=>
 Aa 0 y3.2.1 y3.2.2.1)<|
 ck (BI (k0.f.Ai+1))<|
 ck (BI A1)<|
 Aa A1 (CK.ZV k0 (Dop.DE.mk k0.f.name k0.f.params (k0.f.Ai+1) k0.f.frame k0.f.body)) k1
def JK.Kc:=kd 94 JK.p fun x=>JK.k x.1.2.1 x.2.1 x.2.2.1
theorem JK.Kh:JK.Kc.Holds prog:=kh AI (hc Az.Kh hn) JK.ok (by kernel_rfl)
def JO.k (t:Int) (k0:CK) (k1:CT):R2 Int CK CT:=
 (JI.k t k1).bind fun y2=>
 Aa y2.1.1 k0 y2.2.1
def JO.Kc:=kd 179 JO.p fun x=>JO.k x.1.2.1 x.2.1 x.2.2.1
theorem JO.Kh:JO.Kc.Holds prog:=kh AI (hc JI.Kh hn) JO.ok (by kernel_rfl)
def Ks.k (a:Int) (k0:CK) (k1:CT):R2 Int CK CT:=
 (Bd.k 4 a ((-1)) ((-1)) 0 [] k0 k1).bind BQ
def Ks.Kc:=kd 180 Ks.p fun x=>Ks.k x.1.2.1 x.2.1 x.2.2.1
theorem Ks.Kh:Ks.Kc.Holds prog:=kh AI (hc Bd.Kh hn) Ks.ok (by kernel_rfl)
def JM.k (a t:Int) (k0:CK) (k1:CT):R2 Dop.Ag CK CT:=
 (Cz.k t k0 k1).bind fun y2=>
 ci (y2.1.1=5) ((GK.k t y2.2.1 y2.2.2.1).bind fun y4=>
 (JO.k y4.1.1 y4.2.1 y4.2.2.1).bind fun y5=>
 Aa (Dop.Ag.mk a y5.1.1 0 0 false) y5.2.1 y5.2.2.1)<|
 ci (y2.1.1=6) (Aa (Dop.Ag.mk a t 2 a false) y2.2.1 y2.2.2.1)<|
 (Ks.k a y2.2.1 y2.2.2.1).bind fun y5=>
 Aa (Dop.Ag.mk y5.1.1 t 2 a false) y5.2.1 y5.2.2.1
def JM.Kc:=kd 146 JM.p fun x=>JM.k x.1.2.1 x.1.2.2.1 x.2.1 x.2.2.1
theorem JM.Kh:JM.Kc.Holds prog:=kh AI (hc Cz.Kh (hc GK.Kh (hc JO.Kh (hc Ks.Kh hn)))) JM.ok (by kernel_rfl)
def Fp.k (p:Dop.CI) (k0:CK) (k1:CT):R2 Int CK CT:=
 ci (p.kind=3) ((Bd.k 3 ((-1)) ((-1)) ((-1)) p.n [] k0 k1).bind BQ)<|
 (E5.k p.n k0 k1).bind BQ
def Fp.Kc:=kd 58 Fp.p fun x=>Fp.k x.1.2.1 x.2.1 x.2.2.1
theorem Fp.Kh:Fp.Kc.Holds prog:=kh AI (hc Bd.Kh (hc E5.Kh hn)) Fp.ok (by kernel_rfl)
def Hw.k (op a:Int) (k0:CK) (k1:CT):R2 Int CK CT:=
 (Bd.k 7 a ((-1)) ((-1)) op [] k0 k1).bind BQ
def Hw.Kc:=kd 158 Hw.p fun x=>Hw.k x.1.2.1 x.1.2.2.1 x.2.1 x.2.2.1
theorem Hw.Kh:Hw.Kc.Holds prog:=kh AI (hc Bd.Kh hn) Hw.ok (by kernel_rfl)
def Hx.k (r a:Int) (k0:CK) (k1:CT):R2 Int CK CT:=
 (Bd.k 6 a ((-1)) ((-1)) r [] k0 k1).bind BQ
def Hx.Kc:=kd 159 Hx.p fun x=>Hx.k x.1.2.1 x.1.2.2.1 x.2.1 x.2.2.1
theorem Hx.Kh:Hx.Kc.Holds prog:=kh AI (hc Bd.Kh hn) Hx.ok (by kernel_rfl)
def B8.k (kind a b d e n:Int) (text:List UInt8) (k0:CK) (k1:CT):R2 Int CK CT:=
 ck (DG none (room 80 (k0.nodes.length+(Dop.Ab.mk kind a b d e text n 0 0::[]).length)))<|
 ck (BI (I (k0.nodes++Dop.Ab.mk kind a b d e text n 0 0::[]).length -1))<|
 Aa (I (k0.nodes++Dop.Ab.mk kind a b d e text n 0 0::[]).length -1) (CK.FK k0 (k0.nodes++Dop.Ab.mk kind a b d e text n 0 0::[])) k1
def B8.Kc:=kd 56 B8.p fun x=>B8.k x.1.2.1 x.1.2.2.1 x.1.2.2.2.1 x.1.2.2.2.2.1 x.1.2.2.2.2.2.1 x.1.2.2.2.2.2.2.1 x.1.2.2.2.2.2.2.2.1 x.2.1 x.2.2.1
theorem B8.Kh:B8.Kc.Holds prog:=kh AI hn B8.ok (by kernel_rfl)
abbrev QK.T:Type:=Int->Int->Bool->Int->Int->Bool->CK->CT->Dop.Ag->R2 Int CK CT
abbrev L7.T:Type:=Int->Int->Int->Bool->CK->CT->Dop.Ag->R2 Int CK CT
abbrev BU.KT:Type:=QK.T×L7.T×Unit
def QK.kB (tK:BU.KT):QK.T:=fun t2 t3 t4 t11 t12 t13 k0 k1 b2=>
 ci (t12=4) ((Dx.k b2.BH k0 k1).bind fun y3=>
 let z1:R2 Int CK CT:=
 (De.k b2.BH y3.2.2.1).bind fun y6=>
 ci y6.1.1 ((De.k t2 y6.2.1).bind fun y8=>
 tK.2.1 t3 t11 t12 y8.1.1 y3.2.1 y8.2.1 b2)<|
 tK.2.1 t3 t11 t12 false y3.2.1 y6.2.1 b2
 ci y3.1.1 (ci t4 (z1)<|
 tK.2.1 t3 t11 t12 b2.zero y3.2.1 y3.2.2.1 b2)<|
 ci t4 (z1)<|
 tK.2.1 t3 t11 t12 t13 y3.2.1 y3.2.2.1 b2)<|
 ci t4 ((De.k b2.BH k1).bind fun y4=>
 ci y4.1.1 ((De.k t2 y4.2.1).bind fun y6=>
 tK.2.1 t3 t11 t12 y6.1.1 k0 y6.2.1 b2)<|
 tK.2.1 t3 t11 t12 false k0 y4.2.1 b2)<|
 tK.2.1 t3 t11 t12 t13 k0 k1 b2
def L7.kB (tK:BU.KT):L7.T:=fun t3 t11 t12 t13 k0 k1 b2=>
 ci (!t13) ((Az.k 8 t3 k0 k1).bind fun y3=>
 Aa y3.1.1.n y3.2.1 y3.2.2.1)<|
 ci (t12=3) (ci (!(t11=3)) ((Hw.k 22 b2.n k0 k1).bind BQ)<|
 Aa b2.n k0 k1)<|
 Aa b2.n k0 k1
def BU.kS (tK:BU.KT):BU.KT:=(QK.kB tK,L7.kB tK,())
def BU.kL (n:Nat):BU.KT:=Bp BU.kS n
def BU.k0 (tK:BU.KT) (t1:Dop.Ag) (t2 t3:Int) (t4:Bool) (k0:CK) (k1:CT):R2 Int CK CT:=
 (Cz.k t1.BH k0 k1).bind fun y2=>
 (Cz.k t2 y2.2.1 y2.2.2.1).bind fun y3=>
 (Dx.k t1.BH y3.2.1 y3.2.2.1).bind fun y4=>
 ci y4.1.1 ((Dx.k t2 y4.2.1 y4.2.2.1).bind fun y6=>
 ci (y2.1.1=4) (ci (y3.1.1=4) ((GK.k t1.BH y6.2.1 y6.2.2.1).bind fun y9=>
 (GK.k t2 y9.2.1 y9.2.2.1).bind fun y10=>
 ci (t1.BH=t2) (tK.1 t2 t3 t4 y2.1.1 y3.1.1 true y10.2.1 y10.2.2.1 t1)<|
 ci (y9.1.1=0) (tK.1 t2 t3 t4 y2.1.1 y3.1.1 true y10.2.1 y10.2.2.1 t1)<|
 tK.1 t2 t3 t4 y2.1.1 y3.1.1 (decide (y10.1.1=0)) y10.2.1 y10.2.2.1 t1)<|
 tK.1 t2 t3 t4 y2.1.1 y3.1.1 y6.1.1 y6.2.1 y6.2.2.1 t1)<|
 tK.1 t2 t3 t4 y2.1.1 y3.1.1 y6.1.1 y6.2.1 y6.2.2.1 t1)<|
 ci (y2.1.1=4) (ci (y3.1.1=4) ((GK.k t1.BH y4.2.1 y4.2.2.1).bind fun y8=>
 (GK.k t2 y8.2.1 y8.2.2.1).bind fun y9=>
 ci (t1.BH=t2) (tK.1 t2 t3 t4 y2.1.1 y3.1.1 true y9.2.1 y9.2.2.1 t1)<|
 ci (y8.1.1=0) (tK.1 t2 t3 t4 y2.1.1 y3.1.1 true y9.2.1 y9.2.2.1 t1)<|
 tK.1 t2 t3 t4 y2.1.1 y3.1.1 (decide (y9.1.1=0)) y9.2.1 y9.2.2.1 t1)<|
 tK.1 t2 t3 t4 y2.1.1 y3.1.1 false y4.2.1 y4.2.2.1 t1)<|
 tK.1 t2 t3 t4 y2.1.1 y3.1.1 false y4.2.1 y4.2.2.1 t1
def BU.k (t1:Dop.Ag) (t2 t3:Int) (t4:Bool) (k0:CK) (k1:CT):R2 Int CK CT:=BU.k0 (BU.kL 1000000) t1 t2 t3 t4 k0 k1
def BU.Kc:=kd 123 BU.p fun x=>BU.k x.1.2.1 x.1.2.2.1 x.1.2.2.2.1 x.1.2.2.2.2.1 x.2.1 x.2.2.1
theorem BU.Kh:BU.Kc.Holds prog:=Fx AI (hc Cz.Kh (hc Dx.Kh (hc GK.Kh (hc De.Kh (hc Az.Kh (hc Hw.Kh hn)))))) BU.ok (fun t x=>BU.k0 t x.1.2.1 x.1.2.2.1 x.1.2.2.2.1 x.1.2.2.2.2.1 x.2.1 x.2.2.1) (fun c=>(fun t2 t3 t4 t11 t12 t13 k0 k1 b2=>c 7 BU.q7 rfl (((),t2,t3,t4,(),t11,t12,t13,()),(k0,k1,(b2,()),())),fun t3 t11 t12 t13 k0 k1 b2=>c 11 BU.da rfl (((),t3,(),t11,t12,t13,()),(k0,k1,(b2,()),())),())) BU.kS (by kernel_rfl)
def Cv.k (op a b:Int) (k0:CK) (k1:CT):R2 Int CK CT:=
 (Bd.k 8 a b ((-1)) op [] k0 k1).bind BQ
def Cv.Kc:=kd 184 Cv.p fun x=>Cv.k x.1.2.1 x.1.2.2.1 x.1.2.2.2.1 x.2.1 x.2.2.1
theorem Cv.Kh:Cv.Kc.Holds prog:=kh AI (hc Bd.Kh hn) Cv.ok (by kernel_rfl)
def Gg.k (n size:Int) (k0:CK) (k1:CT):R2 Int CK CT:=
 ci (size=1) (Aa n k0 k1)<|
 (E5.k size k0 k1).bind fun y3=>
 (Cv.k 3 n y3.1.1 y3.2.1 y3.2.2.1).bind BQ
def Gg.Kc:=kd 185 Gg.p fun x=>Gg.k x.1.2.1 x.1.2.2.1 x.2.1 x.2.2.1
theorem Gg.Kh:Gg.Kc.Holds prog:=kh AI (hc E5.Kh (hc Cv.Kh hn)) Gg.ok (by kernel_rfl)
abbrev QE.T:Type:=Int->Int->Int->CK->CT->R2 Int CK CT
abbrev Lv.T:Type:=Int->Int->Int->Int->Int->CK->CT->R2 Int CK CT
abbrev DH.KT:Type:=QE.T×Lv.T×Unit
def QE.kB (tK:DH.KT):QE.T:=fun t1 t2 t7 k0 k1=>
 let A1:=List.getD k0.t.types t7.toNat Dop.d6
 let A2:=List.getD k0.num A1.elem.toNat 0
 let z1:R2 Int CK CT:=
 ck (0<=t1/\t1<I k0.num.length)<|
 ck (t1.toNat<k0.num.length)<|
 Aa (List.getD k0.num t1.toNat 0) k0 k1
 ci (t7<=t1) (ci (t7<I k0.t.types.length) (ck (0<=t7/\t7<I k0.t.types.length)<|
 ci (A1.kind=4) (ck (0<=A1.elem/\A1.elem<I k0.num.length)<|
 ck (A1.elem.toNat<k0.num.length)<|
 (JI.k A2 k1).bind fun y5=>
 tK.2.1 t1 t2 t7 y5.1.1 y5.1.2.1 k0 y5.2.1)<|
 ci (A1.kind=5) (ck (0<=A1.elem/\A1.elem<I k0.num.length)<|
 ck (A1.elem.toNat<k0.num.length)<|
 (Kq.k A2 (A1.n) k1).bind fun y6=>
 tK.2.1 t1 t2 t7 y6.1.1 y6.1.2.1 k0 y6.2.1)<|
 ci (A1.kind=6) ((JJ.k (A1.name) k1).bind fun y7=>
 tK.2.1 t1 t2 t7 y7.1.1 y7.1.2.1 k0 y7.2.1)<|
 tK.2.1 t1 t2 t7 t7 0 k0 k1)<|
 z1)<|
 z1
def Lv.kB (tK:DH.KT):Lv.T:=fun t1 t2 t7 t9 t10 k0 k1=>
 ci (!(t10=0)) ((Az.k t10 t2 k0 k1).bind fun y3=>
 Aa 1 y3.2.1 y3.2.2.1)<|
 ck (DG none (room 8 (k0.num.length+(t9::[]).length)))<|
 ck (BI (t7+1))<|
 tK.1 t1 t2 (t7+1) ((CK.N2 k0 (k0.num++t9::[]))) k1
def DH.kS (tK:DH.KT):DH.KT:=(QE.kB tK,Lv.kB tK,())
def DH.kL (n:Nat):DH.KT:=Bp DH.kS n
def DH.k0 (tK:DH.KT) (t1 t2:Int) (k0:CK) (k1:CT):R2 Int CK CT:=
 tK.1 t1 t2 (I k0.num.length) k0 k1
def DH.k (t1 t2:Int) (k0:CK) (k1:CT):R2 Int CK CT:=DH.k0 (DH.kL 1000000) t1 t2 k0 k1
def DH.Kc:=kd 46 DH.p fun x=>DH.k x.1.2.1 x.1.2.2.1 x.2.1 x.2.2.1
theorem DH.Kh:DH.Kc.Holds prog:=Fx AI (hc JI.Kh (hc Kq.Kh (hc JJ.Kh (hc Az.Kh hn)))) DH.ok (fun t x=>DH.k0 t x.1.2.1 x.1.2.2.1 x.2.1 x.2.2.1) (fun c=>(fun t1 t2 t7 k0 k1=>c 2 DH.q2 rfl (((),t1,t2,t7,()),(k0,k1,())),fun t1 t2 t7 t9 t10 k0 k1=>c 13 DH.Zu rfl (((),t1,t2,t7,t9,t10,()),(k0,k1,())),())) DH.kS (by kernel_rfl)
def JN.k (v:Dop.Ag) (at_:Int) (k0:CK) (k1:CT):R2 Dop.Ag CK CT:=
 ci (!(k0.e=0)) ((Az.k 8 at_ k0 k1).bind BQ)<|
 (Cz.k v.BH k0 k1).bind fun y3=>
 ci (!(y3.1.1=4)) ((Az.k 8 at_ y3.2.1 y3.2.2.1).bind BQ)<|
 (GK.k v.BH y3.2.1 y3.2.2.1).bind fun y5=>
 (Bh.k y5.1.1 y5.2.2.1).bind fun y6=>
 ci (!y6.1.2.1) ((Az.k 8 at_ y5.2.1 y6.2.1).bind BQ)<|
 (JM.k v.n y5.1.1 y5.2.1 y6.2.1).bind BQ
def JN.Kc:=kd 154 JN.p fun x=>JN.k x.1.2.1 x.1.2.2.1 x.2.1 x.2.2.1
theorem JN.Kh:JN.Kc.Holds prog:=kh AI (hc Cz.Kh (hc Az.Kh (hc GK.Kh (hc Bh.Ip (hc JM.Kh hn))))) JN.ok (by kernel_rfl)
abbrev MC.T:Type:=Int->CK->CT->Dop.Ag->Dop.Ag->Dop.Ag->Dop.Ag->R2 Dop.Ag CK CT
abbrev EU.KT:Type:=MC.T×Unit
def MC.kB (tK:EU.KT):MC.T:=fun t11 k0 k1 b2 b3 b4 b5=>
 (Bd.k 9 b2.n b3.n b4.n 0 [] k0 k1).bind fun y2=>
 Aa (Dop.Ag.mk y2.1.1 t11 0 0 false) y2.2.1 y2.2.2.1
def EU.kS (tK:EU.KT):EU.KT:=(MC.kB tK,())
def EU.kL (n:Nat):EU.KT:=Bp EU.kS n
def EU.k0 (tK:EU.KT) (t1 t2 t3:Dop.Ag) (t4:Int) (k0:CK) (k1:CT):R2 Dop.Ag CK CT:=
 let A1:=Dop.Ag.mk 0 0 0 0 false
 let F1:Y2 Int CK CT->R2 Dop.Ag CK CT:=fun y8=>
 ci (y8.1.1=4) (ci t3.zero (tK.1 t2.BH y8.2.1 y8.2.2.1 t1 t2 t3 A1)<|
 (Az.k 8 t4 y8.2.1 y8.2.2.1).bind BQ)<|
 (Az.k 8 t4 y8.2.1 y8.2.2.1).bind BQ
 ci (!(k0.e=0)) (Aa (Dop.Ag.mk (-1) 1 0 0 false) k0 k1)<|
 (Dx.k t2.BH k0 k1).bind fun y3=>
 ci y3.1.1 ((Dx.k t3.BH y3.2.1 y3.2.2.1).bind fun y5=>
 ci y5.1.1 ((HD.k t2.BH t3.BH y5.2.1 y5.2.2.1).bind fun y7=>
 tK.1 y7.1.1 y7.2.1 y7.2.2.1 t1 t2 t3 A1)<|
 ci (t2.BH=t3.BH) (tK.1 t2.BH y5.2.1 y5.2.2.1 t1 t2 t3 A1)<|
 (Cz.k t3.BH y5.2.1 y5.2.2.1).bind fun y8=>
 ci (y8.1.1=4) (ci t2.zero (tK.1 t3.BH y8.2.1 y8.2.2.1 t1 t2 t3 A1)<|
 (Cz.k t2.BH y8.2.1 y8.2.2.1).bind F1)<|
 (Cz.k t2.BH y8.2.1 y8.2.2.1).bind F1)<|
 ci (t2.BH=t3.BH) (tK.1 t2.BH y3.2.1 y3.2.2.1 t1 t2 t3 A1)<|
 (Cz.k t3.BH y3.2.1 y3.2.2.1).bind fun y6=>
 ci (y6.1.1=4) (ci t2.zero (tK.1 t3.BH y6.2.1 y6.2.2.1 t1 t2 t3 A1)<|
 (Cz.k t2.BH y6.2.1 y6.2.2.1).bind F1)<|
 (Cz.k t2.BH y6.2.1 y6.2.2.1).bind F1
def EU.k (t1 t2 t3:Dop.Ag) (t4:Int) (k0:CK) (k1:CT):R2 Dop.Ag CK CT:=EU.k0 (EU.kL 1000000) t1 t2 t3 t4 k0 k1
def EU.Kc:=kd 153 EU.p fun x=>EU.k x.1.2.1 x.1.2.2.1 x.1.2.2.2.1 x.1.2.2.2.2.1 x.2.1 x.2.2.1
theorem EU.Kh:EU.Kc.Holds prog:=Fx AI (hc Dx.Kh (hc HD.Kh (hc Cz.Kh (hc Az.Kh (hc Bd.Kh hn))))) EU.ok (fun t x=>EU.k0 t x.1.2.1 x.1.2.2.1 x.1.2.2.2.1 x.1.2.2.2.2.1 x.2.1 x.2.2.1) (fun c=>(fun t11 k0 k1 b2 b3 b4 b5=>c 11 EU.da rfl (((),(),(),(),(),t11,()),(k0,k1,(b2,()),(b3,()),(b4,()),(b5,()),())),())) EU.kS (by kernel_rfl)
def Ef.k (ahead n:Int) (k0:CK) (k1:CT):R2 Int CK CT:=
 ci (ahead<0) (Aa n k0 k1)<|
 (Bd.k 15 ahead n ((-1)) 0 [] k0 k1).bind BQ
def Ef.Kc:=kd 187 Ef.p fun x=>Ef.k x.1.2.1 x.1.2.2.1 x.2.1 x.2.2.1
theorem Ef.Kh:Ef.Kc.Holds prog:=kh AI (hc Bd.Kh hn) Ef.ok (by kernel_rfl)
def Dl.k (l:Dop.Ag) (n:Int) (k0:CK) (k1:CT):R2 Int CK CT:=
 ci (l.left=1) ((Hx.k l.at_ n k0 k1).bind BQ)<|
 (Bd.k 5 l.at_ n ((-1)) 0 [] k0 k1).bind BQ
def Dl.Kc:=kd 124 Dl.p fun x=>Dl.k x.1.2.1 x.1.2.2.1 x.2.1 x.2.2.1
theorem Dl.Kh:Dl.Kc.Holds prog:=kh AI (hc Hx.Kh (hc Bd.Kh hn)) Dl.ok (by kernel_rfl)
def NS.k :Fs (List (List UInt8×Dop.Lm)):=
 Cn (B9 (B9 (B9 (B9 (B9 (B9 (B9 (B9 (B9 (B9 (B9 (B9 (B9 (B9 (B9 (B9 (([]:List (List UInt8×Dop.Lm))) ([43]:List UInt8) (Dop.Lm.mk 1 1)) ([45]:List UInt8) (Dop.Lm.mk 2 2)) ([42]:List UInt8) (Dop.Lm.mk 3 3)) ([47]:List UInt8) (Dop.Lm.mk 4 6)) ([37]:List UInt8) (Dop.Lm.mk 5 7)) ([38]:List UInt8) (Dop.Lm.mk 8 8)) ([124]:List UInt8) (Dop.Lm.mk 9 9)) ([94]:List UInt8) (Dop.Lm.mk 10 10)) ([60,60]:List UInt8) (Dop.Lm.mk 11 11)) ([62,62]:List UInt8) (Dop.Lm.mk 12 13)) ([61,61]:List UInt8) (Dop.Lm.mk 14 14)) ([33,61]:List UInt8) (Dop.Lm.mk 15 15)) ([60]:List UInt8) (Dop.Lm.mk 16 18)) ([60,61]:List UInt8) (Dop.Lm.mk 17 19)) ([62]:List UInt8) (Dop.Lm.mk 16 18)) ([62,61]:List UInt8) (Dop.Lm.mk 17 19))
def NS.Kc:=kd 182 NS.p fun x=>NS.k
theorem NS.Kh:NS.Kc.Holds prog:=kh AI hn NS.ok (by kernel_rfl)
def Kt.k (l:Dop.Ag) (at_:Int) (k0:CK) (k1:CT):Wc Int Dop.Ag CK CT:=
 ci (!(l.left=2)) (R9 (-1) l k0 k1)<|
 (JK.k at_ k0 k1).bind fun y3=>
 (Hx.k y3.1.1 l.at_ y3.2.1 y3.2.2.1).bind fun y4=>
 (ET.k y3.1.1 y4.2.1 y4.2.2.1).bind fun y5=>
 (ET.k y3.1.1 y5.2.1 y5.2.2.1).bind fun y6=>
 (Ks.k y6.1.1 y6.2.1 y6.2.2.1).bind fun y7=>
 R9 y4.1.1 (Dop.Ag.mk y7.1.1 l.BH 2 y5.1.1 false) y7.2.1 y7.2.2.1
def Kt.Kc:=kd 186 Kt.p fun x=>Kt.k x.1.2.1 x.1.2.2.1 x.2.1 x.2.2.1
theorem Kt.Kh:Kt.Kc.Holds prog:=kh AI (hc JK.Kh (hc Hx.Kh (hc ET.Kh (hc Ks.Kh hn)))) Kt.ok (by kernel_rfl)
abbrev QL.T:Type:=List UInt8->Int->Bool->Bool->CK->CT->Dop.Ag->Dop.Ag->Dop.Ag->R2 Dop.Ag CK CT
abbrev L8.T:Type:=List UInt8->Int->Bool->Bool->Bool->Int->CK->CT->Dop.Ag->Dop.Ag->Dop.Ag->Dop.Lm->R2 Dop.Ag CK CT
abbrev L9.T:Type:=List UInt8->Int->CK->CT->Dop.Ag->Dop.Ag->Dop.Ag->Dop.Lm->R2 Dop.Ag CK CT
abbrev MA.T:Type:=List UInt8->Int->Bool->Bool->Int->CK->CT->Dop.Ag->Dop.Ag->Dop.Ag->Dop.Lm->R2 Dop.Ag CK CT
abbrev MB.T:Type:=List UInt8->Int->Int->CK->CT->Dop.Ag->Dop.Ag->Dop.Ag->Dop.Lm->R2 Dop.Ag CK CT
abbrev Bo.KT:Type:=QL.T×L8.T×L9.T×MA.T×MB.T×Unit
def QL.kB (tK:Bo.KT):QL.T:=fun t1 t4 t11 t12 k0 k1 b2 b3 b4=>
 (NS.k).bind fun y2=>
 ck (([32]:List UInt8).length+t1.length<=9223372036854775807)<|
 ck (((32:UInt8)::[]++t1).length+([32]:List UInt8).length<=9223372036854775807)<|
 ck (V4 ([32,61,61,32,33,61,32,60,32,60,61,32,62,32,62,61,32]:List UInt8))<|
 (J8.k b2.BH k0 k1).bind fun y3=>
 ci y3.1.1 (ci (!(t1=(62:UInt8)::(62:UInt8)::[])) (tK.2.1 t1 t4 t11 t12 (Lib.contains ([32,61,61,32,33,61,32,60,32,60,61,32,62,32,62,61,32]:List UInt8) ((32:UInt8)::[]++t1++(32:UInt8)::[])) 1 y3.2.1 y3.2.2.1 b2 b3 b4 ((AO y2.1.1 t1).getD Dop.d14))<|
 (J8.k b2.BH y3.2.1 y3.2.2.1).bind fun y6=>
 ci y6.1.1 (tK.2.1 t1 t4 t11 t12 (Lib.contains ([32,61,61,32,33,61,32,60,32,60,61,32,62,32,62,61,32]:List UInt8) ((32:UInt8)::[]++t1++(32:UInt8)::[])) 1 y6.2.1 y6.2.2.1 b2 b3 b4 ((AO y2.1.1 t1).getD Dop.d14))<|
 tK.2.1 t1 t4 t11 t12 (Lib.contains ([32,61,61,32,33,61,32,60,32,60,61,32,62,32,62,61,32]:List UInt8) ((32:UInt8)::[]++t1++(32:UInt8)::[])) 0 y6.2.1 y6.2.2.1 b2 b3 b4 ((AO y2.1.1 t1).getD Dop.d14))<|
 (J8.k b3.BH y3.2.1 y3.2.2.1).bind fun y5=>
 ci y5.1.1 (ci (!(t1=(62:UInt8)::(62:UInt8)::[])) (tK.2.1 t1 t4 t11 t12 (Lib.contains ([32,61,61,32,33,61,32,60,32,60,61,32,62,32,62,61,32]:List UInt8) ((32:UInt8)::[]++t1++(32:UInt8)::[])) 1 y5.2.1 y5.2.2.1 b2 b3 b4 ((AO y2.1.1 t1).getD Dop.d14))<|
 (J8.k b2.BH y5.2.1 y5.2.2.1).bind fun y8=>
 ci y8.1.1 (tK.2.1 t1 t4 t11 t12 (Lib.contains ([32,61,61,32,33,61,32,60,32,60,61,32,62,32,62,61,32]:List UInt8) ((32:UInt8)::[]++t1++(32:UInt8)::[])) 1 y8.2.1 y8.2.2.1 b2 b3 b4 ((AO y2.1.1 t1).getD Dop.d14))<|
 tK.2.1 t1 t4 t11 t12 (Lib.contains ([32,61,61,32,33,61,32,60,32,60,61,32,62,32,62,61,32]:List UInt8) ((32:UInt8)::[]++t1++(32:UInt8)::[])) 0 y8.2.1 y8.2.2.1 b2 b3 b4 ((AO y2.1.1 t1).getD Dop.d14))<|
 tK.2.1 t1 t4 t11 t12 (Lib.contains ([32,61,61,32,33,61,32,60,32,60,61,32,62,32,62,61,32]:List UInt8) ((32:UInt8)::[]++t1++(32:UInt8)::[])) 0 y5.2.1 y5.2.2.1 b2 b3 b4 ((AO y2.1.1 t1).getD Dop.d14)
def L8.kB (tK:Bo.KT):L8.T:=fun t1 t4 t11 t12 t14 t16 k0 k1 b2 b3 b4 b5=>
 let A1:=(Az.k 8 t4 k0 k1).bind BQ
 ci t14 (ci (!t11 == t12) (ci t11 (ci (!b3.zero) (ci t12 (ci (!b2.zero) A1<|
 ci t11 (ci t12 (ci (!(b2.BH=b3.BH)) A1<|
 tK.2.2.1 t1 t16 k0 k1 b2 b3 b4 b5)<|
 tK.2.2.1 t1 t16 k0 k1 b2 b3 b4 b5)<|
 tK.2.2.1 t1 t16 k0 k1 b2 b3 b4 b5)<|
 (Az.k 8 t4 k0 k1).bind BQ)<|
 ci t11 (ci t12 (ci (!(b2.BH=b3.BH)) A1<|
 tK.2.2.1 t1 t16 k0 k1 b2 b3 b4 b5)<|
 tK.2.2.1 t1 t16 k0 k1 b2 b3 b4 b5)<|
 tK.2.2.1 t1 t16 k0 k1 b2 b3 b4 b5)<|
 ci t12 (ci (!b2.zero) A1<|
 ci t11 (ci t12 (ci (!(b2.BH=b3.BH)) A1<|
 tK.2.2.1 t1 t16 k0 k1 b2 b3 b4 b5)<|
 tK.2.2.1 t1 t16 k0 k1 b2 b3 b4 b5)<|
 tK.2.2.1 t1 t16 k0 k1 b2 b3 b4 b5)<|
 (Az.k 8 t4 k0 k1).bind BQ)<|
 ci t11 (ci t12 (ci (!(b2.BH=b3.BH)) A1<|
 tK.2.2.1 t1 t16 k0 k1 b2 b3 b4 b5)<|
 tK.2.2.1 t1 t16 k0 k1 b2 b3 b4 b5)<|
 tK.2.2.1 t1 t16 k0 k1 b2 b3 b4 b5)<|
 tK.2.2.2.1 t1 t4 t11 t12 t16 k0 k1 b2 b3 b4 b5
def L9.kB (tK:Bo.KT):L9.T:=fun t1 t16 k0 k1 b2 b3 b4 b5=>
 ci (t1=(62:UInt8)::[]) (ck (0<=t16/\t16<I 2)<|
 ck (t16.toNat<(b5.x0::b5.x1::[]).length)<|
 (Cv.k ((b5.x0::b5.x1::[]).getD t16.toNat 0) b3.n b2.n k0 k1).bind fun y3=>
 Aa (Dop.Ag.mk y3.1.1 1 0 0 false) y3.2.1 y3.2.2.1)<|
 ci (t1=(62:UInt8)::(61:UInt8)::[]) (ck (0<=t16/\t16<I 2)<|
 ck (t16.toNat<(b5.x0::b5.x1::[]).length)<|
 (Cv.k ((b5.x0::b5.x1::[]).getD t16.toNat 0) b3.n b2.n k0 k1).bind fun y4=>
 Aa (Dop.Ag.mk y4.1.1 1 0 0 false) y4.2.1 y4.2.2.1)<|
 ck (0<=t16/\t16<I 2)<|
 ck (t16.toNat<(b5.x0::b5.x1::[]).length)<|
 (Cv.k ((b5.x0::b5.x1::[]).getD t16.toNat 0) b2.n b3.n k0 k1).bind fun y4=>
 Aa (Dop.Ag.mk y4.1.1 1 0 0 false) y4.2.1 y4.2.2.1
def MA.kB (tK:Bo.KT):MA.T:=fun t1 t4 t11 t12 t16 k0 k1 b2 b3 b4 b5=>
 let A4:=HD.k b2.BH b3.BH k0 k1
 let A3:=GK.k b3.BH k0 k1
 let A2:=GK.k b2.BH k0 k1
 let A1:=(Az.k 8 t4 k0 k1).bind BQ
 let z1:R2 Dop.Ag CK CT:=
 ci (!(t1=(43:UInt8)::[])) (ci (!(t1=(45:UInt8)::[])) A1<|
 ci t12 A1<|
 ci t11 (A2.bind fun y9=>
 ck ((0:Int)<=0/\0<I 2)<|
 (Gg.k b3.n y9.1.2.1 y9.2.1 y9.2.2.1).bind fun y10=>
 (Cv.k b5.x0 b2.n y10.1.1 y10.2.1 y10.2.2.1).bind fun y11=>
 Aa (Dop.Ag.mk y11.1.1 b2.BH 0 0 false) y11.2.1 y11.2.2.1)<|
 A3.bind fun y9=>
 ck ((0:Int)<=0/\0<I 2)<|
 (Gg.k b2.n y9.1.2.1 y9.2.1 y9.2.2.1).bind fun y10=>
 (Cv.k b5.x0 y10.1.1 b3.n y10.2.1 y10.2.2.1).bind fun y11=>
 Aa (Dop.Ag.mk y11.1.1 b3.BH 0 0 false) y11.2.1 y11.2.2.1)<|
 ci t11 (A2.bind fun y7=>
 ck ((0:Int)<=0/\0<I 2)<|
 (Gg.k b3.n y7.1.2.1 y7.2.1 y7.2.2.1).bind fun y8=>
 (Cv.k b5.x0 b2.n y8.1.1 y8.2.1 y8.2.2.1).bind fun y9=>
 Aa (Dop.Ag.mk y9.1.1 b2.BH 0 0 false) y9.2.1 y9.2.2.1)<|
 A3.bind fun y7=>
 ck ((0:Int)<=0/\0<I 2)<|
 (Gg.k b2.n y7.1.2.1 y7.2.1 y7.2.2.1).bind fun y8=>
 (Cv.k b5.x0 y8.1.1 b3.n y8.2.1 y8.2.2.1).bind fun y9=>
 Aa (Dop.Ag.mk y9.1.1 b3.BH 0 0 false) y9.2.1 y9.2.2.1
 let z2:R2 Dop.Ag CK CT:=
 ci t11 (A2.bind fun y8=>
 ck ((0:Int)<=0/\0<I 2)<|
 (Gg.k b3.n y8.1.2.1 y8.2.1 y8.2.2.1).bind fun y9=>
 (Cv.k b5.x0 b2.n y9.1.1 y9.2.1 y9.2.2.1).bind fun y10=>
 Aa (Dop.Ag.mk y10.1.1 b2.BH 0 0 false) y10.2.1 y10.2.2.1)<|
 A3.bind fun y8=>
 ck ((0:Int)<=0/\0<I 2)<|
 (Gg.k b2.n y8.1.2.1 y8.2.1 y8.2.2.1).bind fun y9=>
 (Cv.k b5.x0 y9.1.1 b3.n y9.2.1 y9.2.2.1).bind fun y10=>
 Aa (Dop.Ag.mk y10.1.1 b3.BH 0 0 false) y10.2.1 y10.2.2.1
 ci t11 (ci t12 (A2.bind fun y4=>
 ci (!(t1=(45:UInt8)::[])) ((Az.k 8 t4 y4.2.1 y4.2.2.1).bind BQ)<|
 ci (!(b2.BH=b3.BH)) ((Az.k 8 t4 y4.2.1 y4.2.2.1).bind BQ)<|
 (Cv.k 2 b2.n b3.n y4.2.1 y4.2.2.1).bind fun y7=>
 ci (y4.1.2.1=1) (Aa (Dop.Ag.mk y7.1.1 1 0 0 false) y7.2.1 y7.2.2.1)<|
 (E5.k y4.1.2.1 y7.2.1 y7.2.2.1).bind fun y9=>
 (Cv.k 4 y7.1.1 y9.1.1 y9.2.1 y9.2.2.1).bind fun y10=>
 Aa (Dop.Ag.mk y10.1.1 1 0 0 false) y10.2.1 y10.2.2.1)<|
 ci t11 (z1)<|
 ci t12 (ci (!(t1=(43:UInt8)::[])) (ci (!(t1=(45:UInt8)::[])) A1<|
 ci t12 A1<|
 ci t11 (A2.bind fun y10=>
 ck ((0:Int)<=0/\0<I 2)<|
 (Gg.k b3.n y10.1.2.1 y10.2.1 y10.2.2.1).bind fun y11=>
 (Cv.k b5.x0 b2.n y11.1.1 y11.2.1 y11.2.2.1).bind fun y12=>
 Aa (Dop.Ag.mk y12.1.1 b2.BH 0 0 false) y12.2.1 y12.2.2.1)<|
 A3.bind fun y10=>
 ck ((0:Int)<=0/\0<I 2)<|
 (Gg.k b2.n y10.1.2.1 y10.2.1 y10.2.2.1).bind fun y11=>
 (Cv.k b5.x0 y11.1.1 b3.n y11.2.1 y11.2.2.1).bind fun y12=>
 Aa (Dop.Ag.mk y12.1.1 b3.BH 0 0 false) y12.2.1 y12.2.2.1)<|
 z2)<|
 A4.bind fun y6=>
 tK.2.2.2.2.1 t1 t16 y6.1.1 y6.2.1 y6.2.2.1 b2 b3 b4 b5)<|
 ci t11 (ci (!(t1=(43:UInt8)::[])) (ci (!(t1=(45:UInt8)::[])) A1<|
 ci t12 A1<|
 z2)<|
 ci t11 (A2.bind fun y6=>
 ck ((0:Int)<=0/\0<I 2)<|
 (Gg.k b3.n y6.1.2.1 y6.2.1 y6.2.2.1).bind fun y7=>
 (Cv.k b5.x0 b2.n y7.1.1 y7.2.1 y7.2.2.1).bind fun y8=>
 Aa (Dop.Ag.mk y8.1.1 b2.BH 0 0 false) y8.2.1 y8.2.2.1)<|
 A3.bind fun y6=>
 ck ((0:Int)<=0/\0<I 2)<|
 (Gg.k b2.n y6.1.2.1 y6.2.1 y6.2.2.1).bind fun y7=>
 (Cv.k b5.x0 y7.1.1 b3.n y7.2.1 y7.2.2.1).bind fun y8=>
 Aa (Dop.Ag.mk y8.1.1 b3.BH 0 0 false) y8.2.1 y8.2.2.1)<|
 ci t12 (z1)<|
 A4.bind fun y5=>
 tK.2.2.2.2.1 t1 t16 y5.1.1 y5.2.1 y5.2.2.1 b2 b3 b4 b5
def MB.kB (tK:Bo.KT):MB.T:=fun t1 t16 t24 k0 k1 b2 b3 b4 b5=>
 let A1:=HD.k b2.BH b2.BH k0 k1
 ci (t1=(60:UInt8)::(60:UInt8)::[]) (A1.bind fun y3=>
 ci (t1=(62:UInt8)::(62:UInt8)::[]) (ci (y3.1.1=2) (ck ((0:Int)<=1/\1<I 2)<|
 ck (Int.toNat 1<(b5.x0::b5.x1::[]).length)<|
 (Cv.k ((b5.x0::b5.x1::[]).getD (Int.toNat 1) 0) b2.n b3.n y3.2.1 y3.2.2.1).bind fun y6=>
 Aa (Dop.Ag.mk y6.1.1 y3.1.1 0 0 false) y6.2.1 y6.2.2.1)<|
 ck (0<=t16/\t16<I 2)<|
 ck (t16.toNat<(b5.x0::b5.x1::[]).length)<|
 (Cv.k ((b5.x0::b5.x1::[]).getD t16.toNat 0) b2.n b3.n y3.2.1 y3.2.2.1).bind fun y6=>
 Aa (Dop.Ag.mk y6.1.1 y3.1.1 0 0 false) y6.2.1 y6.2.2.1)<|
 ck (0<=t16/\t16<I 2)<|
 ck (t16.toNat<(b5.x0::b5.x1::[]).length)<|
 (Cv.k ((b5.x0::b5.x1::[]).getD t16.toNat 0) b2.n b3.n y3.2.1 y3.2.2.1).bind fun y5=>
 Aa (Dop.Ag.mk y5.1.1 y3.1.1 0 0 false) y5.2.1 y5.2.2.1)<|
 ci (t1=(62:UInt8)::(62:UInt8)::[]) (A1.bind fun y4=>
 ci (t1=(62:UInt8)::(62:UInt8)::[]) (ci (y4.1.1=2) (ck ((0:Int)<=1/\1<I 2)<|
 ck (Int.toNat 1<(b5.x0::b5.x1::[]).length)<|
 (Cv.k ((b5.x0::b5.x1::[]).getD (Int.toNat 1) 0) b2.n b3.n y4.2.1 y4.2.2.1).bind fun y7=>
 Aa (Dop.Ag.mk y7.1.1 y4.1.1 0 0 false) y7.2.1 y7.2.2.1)<|
 ck (0<=t16/\t16<I 2)<|
 ck (t16.toNat<(b5.x0::b5.x1::[]).length)<|
 (Cv.k ((b5.x0::b5.x1::[]).getD t16.toNat 0) b2.n b3.n y4.2.1 y4.2.2.1).bind fun y7=>
 Aa (Dop.Ag.mk y7.1.1 y4.1.1 0 0 false) y7.2.1 y7.2.2.1)<|
 ck (0<=t16/\t16<I 2)<|
 ck (t16.toNat<(b5.x0::b5.x1::[]).length)<|
 (Cv.k ((b5.x0::b5.x1::[]).getD t16.toNat 0) b2.n b3.n y4.2.1 y4.2.2.1).bind fun y6=>
 Aa (Dop.Ag.mk y6.1.1 y4.1.1 0 0 false) y6.2.1 y6.2.2.1)<|
 ci (t1=(62:UInt8)::(62:UInt8)::[]) (ci (t24=2) (ck ((0:Int)<=1/\1<I 2)<|
 ck (Int.toNat 1<(b5.x0::b5.x1::[]).length)<|
 (Cv.k ((b5.x0::b5.x1::[]).getD (Int.toNat 1) 0) b2.n b3.n k0 k1).bind fun y6=>
 Aa (Dop.Ag.mk y6.1.1 t24 0 0 false) y6.2.1 y6.2.2.1)<|
 ck (0<=t16/\t16<I 2)<|
 ck (t16.toNat<(b5.x0::b5.x1::[]).length)<|
 (Cv.k ((b5.x0::b5.x1::[]).getD t16.toNat 0) b2.n b3.n k0 k1).bind fun y6=>
 Aa (Dop.Ag.mk y6.1.1 t24 0 0 false) y6.2.1 y6.2.2.1)<|
 ck (0<=t16/\t16<I 2)<|
 ck (t16.toNat<(b5.x0::b5.x1::[]).length)<|
 (Cv.k ((b5.x0::b5.x1::[]).getD t16.toNat 0) b2.n b3.n k0 k1).bind fun y5=>
 Aa (Dop.Ag.mk y5.1.1 t24 0 0 false) y5.2.1 y5.2.2.1
def Bo.kS (tK:Bo.KT):Bo.KT:=(QL.kB tK,L8.kB tK,L9.kB tK,MA.kB tK,MB.kB tK,())
def Bo.kL (n:Nat):Bo.KT:=Bp Bo.kS n
def Bo.k0 (tK:Bo.KT) (t1:List UInt8) (t2 t3:Dop.Ag) (t4:Int) (k0:CK) (k1:CT):R2 Dop.Ag CK CT:=
 ci (!(k0.e=0)) (Aa (Dop.Ag.mk (-1) 1 0 0 false) k0 k1)<|
 (Cz.k t2.BH k0 k1).bind fun y3=>
 (Cz.k t3.BH y3.2.1 y3.2.2.1).bind fun y4=>
 tK.1 t1 t4 (decide (y3.1.1=4)) (decide (y4.1.1=4)) y4.2.1 y4.2.2.1 t2 t3 (Dop.Ag.mk 0 0 0 0 false)
def Bo.k (t1:List UInt8) (t2 t3:Dop.Ag) (t4:Int) (k0:CK) (k1:CT):R2 Dop.Ag CK CT:=Bo.k0 (Bo.kL 1000000) t1 t2 t3 t4 k0 k1
def Bo.Kc:=kd 148 Bo.p fun x=>Bo.k x.1.2.1 x.1.2.2.1 x.1.2.2.2.1 x.1.2.2.2.2.1 x.2.1 x.2.2.1
theorem Bo.Kh:Bo.Kc.Holds prog:=Fx AI (hc Cz.Kh (hc NS.Kh (hc contains.holds (hc J8.Kh (hc Az.Kh (hc Cv.Kh (hc GK.Kh (hc E5.Kh (hc Gg.Kh (hc HD.Kh hn)))))))))) Bo.ok (fun t x=>Bo.k0 t x.1.2.1 x.1.2.2.1 x.1.2.2.2.1 x.1.2.2.2.2.1 x.2.1 x.2.2.1) (fun c=>(fun t1 t4 t11 t12 k0 k1 b2 b3 b4=>c 4 Bo.q4 rfl (((),t1,t4,(),(),(),t11,t12,()),(k0,k1,(b2,()),(b3,()),(b4,()),())),fun t1 t4 t11 t12 t14 t16 k0 k1 b2 b3 b4 b5=>c 10 Bo.VE rfl (((),t1,t4,(),(),(),t11,t12,(),t14,t16,()),(k0,k1,(b2,()),(b3,()),(b4,()),(b5,()),())),fun t1 t16 k0 k1 b2 b3 b4 b5=>c 13 Bo.Zu rfl (((),t1,(),(),(),(),t16,()),(k0,k1,(b2,()),(b3,()),(b4,()),(b5,()),())),fun t1 t4 t11 t12 t16 k0 k1 b2 b3 b4 b5=>c 16 Bo.fx rfl (((),t1,t4,(),(),(),t11,t12,(),t16,()),(k0,k1,(b2,()),(b3,()),(b4,()),(b5,()),())),fun t1 t16 t24 k0 k1 b2 b3 b4 b5=>c 33 Bo.n9 rfl (((),t1,(),(),(),(),t16,t24,()),(k0,k1,(b2,()),(b3,()),(b4,()),(b5,()),())),())) Bo.kS (by kernel_rfl)
end
end Go.Proofs.Tryz
