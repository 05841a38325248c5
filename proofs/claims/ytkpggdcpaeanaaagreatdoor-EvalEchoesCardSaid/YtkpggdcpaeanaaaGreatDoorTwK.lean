/-
 Functions in plain words (what their equations say), and their contracts. Written by a program.
-/
import Derived.Test.YtkpggdcpaeanaaaGreatDoorTwD
import Derived.Test.YtkpggdcpaeanaaaGreatDoorMm
set_option linter.all false
set_option maxRecDepth 100000
set_option maxHeartbeats 4000000
namespace Go.Proofs.Tryz
open Go Go.En
noncomputable section
def Ex.k (n:Int) (k0:CT):VK Dop.HN Bool CT:=
 let A1:=Pw (Dop.HN.mk 0 0 0 []) false k0
 ci (n<0) A1<|
 ci (I k0.l.length<=n) A1<|
 ck (0<=n/\n<I k0.l.length)<|
 ck (n.toNat<k0.l.length)<|
 Pw (List.getD k0.l n.toNat Dop.d6) true k0
def Ex.Kc:=kd 163 Ex.p fun x=>Ex.k x.1.2.1 x.2.1
theorem Ex.Kh:Ex.Kc.Holds prog:=kh AH hn Ex.ok (by kernel_rfl)
def Iu.k (x:Dop.HN) (k0:CT):VK Int Int CT:=
 (Dq.k k0.l x).bind fun y2=>
 ci (0<=y2.1.1) (Pw y2.1.1 0 k0)<|
 ci (I k0.l.length=256) (Pw 0 4 k0)<|
 ck (Cc none (room 40 (k0.l.length+(x::[]).length)))<|
 ck (Ap (I (k0.l++x::[]).length -1))<|
 Pw (I (k0.l++x::[]).length -1) 0 (CT.kk k0 (k0.l++x::[]))
def Iu.Kc:=kd 193 Iu.p fun x=>Iu.k x.1.2.1 x.2.1
theorem Iu.Kh:Iu.Kc.Holds prog:=kh AH (hc Dq.Kh hn) Iu.ok (by kernel_rfl)
def Ip.k (elem:Int) (k0:CT):VK Int Int CT:=
 (Ex.k elem k0).bind fun y2=>
 ci (!y2.1.2.1) (Pw 0 1 y2.2.1)<|
 (Iu.k (Dop.HN.mk 4 elem 0 []) y2.2.1).bind jl
def Ip.Kc:=kd 159 Ip.p fun x=>Ip.k x.1.2.1 x.2.1
theorem Ip.Kh:Ip.Kc.Holds prog:=kh AH (hc Ex.Kh (hc Iu.Kh hn)) Ip.ok (by kernel_rfl)
abbrev Be.kr (r:F3.T) (t1:Int) (k0:CT):VK Int Bool CT:=r.1 (((),t1,()),(k0,()))
abbrev LV.T:Type:=Int->List Dop.No->Int->Int->CT->VK Int Bool CT
abbrev Be.KT:Type:=LV.T×Unit
def LV.kB (rK:F3.T) (tK:Be.KT):LV.T:=fun t10 t54 t55 t56 k0=>
 ci (t56<t55) (ck (0<=t56/\t56<I t54.length)<|
 (Be.kr rK ((List.getD t54 t56.toNat Dop.d16).AZ) k0).bind fun y3=>
 ck (Ap (t10+y3.1.1))<|
 ck (Ap (t56+1))<|
 tK.1 (t10+y3.1.1) t54 t55 (t56+1) y3.2.1)<|
 Pw t10 (decide (0<t10)) k0
def Be.kS (rK:F3.T) (tK:Be.KT):Be.KT:=(LV.kB rK tK,())
def Be.kL (rK:F3.T) (n:Nat):Be.KT:=Cv (Be.kS rK) n
def Be.k0 (rK:F3.T) (tK:Be.KT) (t1:Int) (k0:CT):VK Int Bool CT:=
 (Ex.k t1 k0).bind fun y2=>
 ci (!y2.1.2.1) (Pw 0 false y2.2.1)<|
 ci (y2.1.1.kind=0) (Pw 0 false y2.2.1)<|
 ci (y2.1.1.kind=5) ((Be.kr rK y2.1.1.elem y2.2.1).bind fun y6=>
 ck (Ap (y6.1.1*y2.1.1.n))<|
 Pw (y6.1.1*y2.1.1.n) true y6.2.1)<|
 ci (y2.1.1.kind=6) (tK.1 0 ((AL (CT.fields y2.2.1) y2.1.1.name).getD []) (I ((AL (CT.fields y2.2.1) y2.1.1.name).getD []).length) 0 y2.2.1)<|
 Pw 1 true y2.2.1
def Be.kf (rK:F3.T) (t1:Int) (k0:CT):VK Int Bool CT:=Be.k0 rK (Be.kL rK 1000000) t1 k0
def F3.kS (r:F3.T):F3.T:=(fun x=>Be.kf r x.1.2.1 x.2.1,())
def F3.kR (n:Nat):F3.T:=Cv F3.kS n
def Be.Kc (n:Nat):=kd 124 Be.p (F3.kR n).1
def Be.Od:=Be.Kc FU
def Be.k:=Be.kr (F3.kR FU)
def F3.Re (n:Nat):List (CC Dop.D4):=[Be.Kc n]
theorem F3.E0: ∀ n,(Be.Kc n).Holds prog/\True
 | 0=>⟨AN AH Be.ok,trivial⟩
 | n+1=>by
  obtain ⟨h0,_⟩:=F3.E0 n
  have hh: ∀ c∈F3.Re n,c.Holds prog:=(hc h0 hn)
  exact ⟨E7 AH (Ac hh (hc Ex.Kh hn)) Be.ok (fun t x=>Be.k0 (F3.kR n) t x.1.2.1 x.2.1) (fun c=>(fun t10 t54 t55 t56 k0=>c 10 Be.UA rfl (((),t10,t54,t55,t56,()),(k0,())),())) (Be.kS (F3.kR n)) (by kernel_rfl),
   trivial⟩
theorem Be.IL:Be.Od.Holds prog:=(F3.E0 FU).1
def KO.k (elem n:Int) (k0:CT):VK Int Int CT:=
 (Ex.k elem k0).bind fun y2=>
 ci (!y2.1.2.1) (Pw 0 1 y2.2.1)<|
 (Be.k elem y2.2.1).bind fun y4=>
 ci (!y4.1.2.1) (Pw 0 8 y4.2.1)<|
 ci (n<1) (Pw 0 4 y4.2.1)<|
 ci (1024<n) (Pw 0 4 y4.2.1)<|
 ck (Ap (y4.1.1*n))<|
 ci (4096<y4.1.1*n) (Pw 0 4 y4.2.1)<|
 (Iu.k (Dop.HN.mk 5 elem n []) y4.2.1).bind jl
def KO.Kc:=kd 160 KO.p fun x=>KO.k x.1.2.1 x.1.2.2.1 x.2.1
theorem KO.Kh:KO.Kc.Holds prog:=kh AH (hc Ex.Kh (hc Be.IL (hc Iu.Kh hn))) KO.ok (by kernel_rfl)
def Iq.k (name:List UInt8) (k0:CT):VK Int Int CT:=
 ci (name=[]) (Pw 0 1 k0)<|
 (Iu.k (Dop.HN.mk 6 0 0 name) k0).bind jl
def Iq.Kc:=kd 161 Iq.p fun x=>Iq.k x.1.2.1 x.2.1
theorem Iq.Kh:Iq.Kc.Holds prog:=kh AH (hc Iu.Kh hn) Iq.ok (by kernel_rfl)
def DY.k (n:Int) (k0:CT):R1 Bool CT:=
 (Ex.k n k0).bind fun y2=>
 ci (1<=y2.1.1.kind) (CS (decide (y2.1.1.kind<=4)) y2.2.1)<|
 CS false y2.2.1
def DY.Kc:=kd 128 DY.p fun x=>DY.k x.1.2.1 x.2.1
theorem DY.Kh:DY.Kc.Holds prog:=kh AH (hc Ex.Kh hn) DY.ok (by kernel_rfl)
abbrev PX.T:Type:=List UInt8->Int->List Dop.No->Int->Int->CT->iw Int Int Bool CT
abbrev D5.KT:Type:=PX.T×Unit
def PX.kB (tK:D5.KT):PX.T:=fun name at_ t35 t36 t37 k0=>
 let A1:=List.getD t35 t37.toNat Dop.d16
 ci (t37<t36) (ck (0<=t37/\t37<I t35.length)<|
 ci (A1.name=name) (jG at_ (A1.AZ) true k0)<|
 (Be.k (A1.AZ) k0).bind fun y4=>
 ck (Ap (at_+y4.1.1))<|
 ck (Ap (t37+1))<|
 tK.1 name (at_+y4.1.1) t35 t36 (t37+1) y4.2.1)<|
 jG 0 0 false k0
def D5.kS (tK:D5.KT):D5.KT:=(PX.kB tK,())
def D5.kL (n:Nat):D5.KT:=Cv D5.kS n
def D5.k0 (tK:D5.KT) (n:Int) (name:List UInt8) (k0:CT):iw Int Int Bool CT:=
 (Ex.k n k0).bind fun y2=>
 ci (!y2.1.2.1) (jG 0 0 false y2.2.1)<|
 ci (!(y2.1.1.kind=6)) (jG 0 0 false y2.2.1)<|
 tK.1 name 0 ((AL (CT.fields y2.2.1) y2.1.1.name).getD []) (I ((AL (CT.fields y2.2.1) y2.1.1.name).getD []).length) 0 y2.2.1
def D5.k (n:Int) (name:List UInt8) (k0:CT):iw Int Int Bool CT:=D5.k0 (D5.kL 1000000) n name k0
def D5.Kc:=kd 248 D5.p fun x=>D5.k x.1.2.1 x.1.2.2.1 x.2.1
theorem D5.Kh:D5.Kc.Holds prog:=E7 AH (hc Ex.Kh (hc Be.IL hn)) D5.ok (fun t x=>D5.k0 t x.1.2.1 x.1.2.2.1 x.2.1) (fun c=>(fun name at_ t35 t36 t37 k0=>c 6 D5.q6 rfl (((),name,at_,t35,t36,t37,()),(k0,())),())) D5.kS (by kernel_rfl)
def Nj.k (n:Int) (k0:CK) (k1:CT):R2 Dop.AR CK CT:=
 let A1:=AV (Dop.AR.mk 0 (-1) (-1) (-1) (-1) [] 0 0 0) k0 k1
 ci (n<0) A1<|
 ci (I k0.t.nodes.length<=n) A1<|
 ck (0<=n/\n<I k0.t.nodes.length)<|
 AV (List.getD k0.t.nodes n.toNat Dop.d5) k0 k1
def Nj.Kc:=kd 74 Nj.p fun x=>Nj.k x.1.2.1 x.2.1 x.2.2.1
theorem Nj.Kh:Nj.Kc.Holds prog:=kh AH hn Nj.ok (by kernel_rfl)
def Ag.k (e n:Int) (k0:CK) (k1:CT):R2 Dop.Ae CK CT:=
 let A1:=Dop.Ae.mk (-1) 1 0 0 false
 ci (k0.e=0) ((Nj.k n k0 k1).bind fun y3=>
 AV A1 (CK.FY (CK.X8 y3.2.1 e) y3.1.1.at_) y3.2.2.1)<|
 AV A1 k0 k1
def Ag.Kc:=kd 123 Ag.p fun x=>Ag.k x.1.2.1 x.1.2.2.1 x.2.1 x.2.2.1
theorem Ag.Kh:Ag.Kc.Holds prog:=kh AH (hc Nj.Kh hn) Ag.ok (by kernel_rfl)
def Co.k (t:Int) (k0:CK) (k1:CT):R2 Int CK CT:=
 (Ex.k t k1).bind fun y2=>
 AV y2.1.1.kind k0 y2.2.1
def Co.Kc:=kd 127 Co.p fun x=>Co.k x.1.2.1 x.2.1 x.2.2.1
theorem Co.Kh:Co.Kc.Holds prog:=kh AH (hc Ex.Kh hn) Co.ok (by kernel_rfl)
def Dp.k (t:Int) (k0:CK) (k1:CT):R2 Bool CK CT:=
 (Co.k t k0 k1).bind fun y2=>
 ci (y2.1.1=1) (AV true y2.2.1 y2.2.2.1)<|
 ci (y2.1.1=2) (AV true y2.2.1 y2.2.2.1)<|
 AV (decide (y2.1.1=3)) y2.2.1 y2.2.2.1
def Dp.Kc:=kd 125 Dp.p fun x=>Dp.k x.1.2.1 x.2.1 x.2.2.1
theorem Dp.Kh:Dp.Kc.Holds prog:=kh AH (hc Co.Kh hn) Dp.ok (by kernel_rfl)
def F5.k (t:Int) (k0:CK) (k1:CT):ee Int Int CK CT:=
 (Ex.k t k1).bind fun y2=>
 (Be.k y2.1.1.elem y2.2.1).bind fun y3=>
 ci (!y3.1.2.1) (Nn y2.1.1.elem 1 k0 y3.2.1)<|
 Nn y2.1.1.elem y3.1.1 k0 y3.2.1
def F5.Kc:=kd 228 F5.p fun x=>F5.k x.1.2.1 x.2.1 x.2.2.1
theorem F5.Kh:F5.Kc.Holds prog:=kh AH (hc Ex.Kh (hc Be.IL hn)) F5.ok (by kernel_rfl)
def Jg.k (t:Int) (k0:CK) (k1:CT):R2 Bool CK CT:=
 (Co.k t k0 k1).bind fun y2=>
 ci (y2.1.1=2) (AV true y2.2.1 y2.2.2.1)<|
 AV (decide (y2.1.1=4)) y2.2.1 y2.2.2.1
def Jg.Kc:=kd 242 Jg.p fun x=>Jg.k x.1.2.1 x.2.1 x.2.2.1
theorem Jg.Kh:Jg.Kc.Holds prog:=kh AH (hc Co.Kh hn) Jg.ok (by kernel_rfl)
def Gw.k (a b:Int) (k0:CK) (k1:CT):R2 Int CK CT:=
 (Co.k a k0 k1).bind fun y2=>
 ci (y2.1.1=2) (AV 2 y2.2.1 y2.2.2.1)<|
 (Co.k b y2.2.1 y2.2.2.1).bind fun y4=>
 ci (y4.1.1=2) (AV 2 y4.2.1 y4.2.2.1)<|
 AV 1 y4.2.1 y4.2.2.1
def Gw.Kc:=kd 240 Gw.p fun x=>Gw.k x.1.2.1 x.1.2.2.1 x.2.1 x.2.2.1
theorem Gw.Kh:Gw.Kc.Holds prog:=kh AH (hc Co.Kh hn) Gw.ok (by kernel_rfl)
def BZ.k (kind a b d n:Int) (text:List UInt8) (k0:CK) (k1:CT):R2 Int CK CT:=
 ck (Cc none (room 80 (k0.nodes.length+(Dop.AR.mk kind a b d (-1) text n 0 0::[]).length)))<|
 ck (Ap (I (k0.nodes++Dop.AR.mk kind a b d (-1) text n 0 0::[]).length -1))<|
 AV (I (k0.nodes++Dop.AR.mk kind a b d (-1) text n 0 0::[]).length -1) (CK.E9 k0 (k0.nodes++Dop.AR.mk kind a b d (-1) text n 0 0::[])) k1
def BZ.Kc:=kd 132 BZ.p fun x=>BZ.k x.1.2.1 x.1.2.2.1 x.1.2.2.2.1 x.1.2.2.2.2.1 x.1.2.2.2.2.2.1 x.1.2.2.2.2.2.2.1 x.2.1 x.2.2.1
theorem BZ.Kh:BZ.Kc.Holds prog:=kh AH hn BZ.ok (by kernel_rfl)
def Ea.k (n:Int):F8 Int:=
 let A1:=IntKind.i32.wrap (IntKind.u32.wrap n)
 ck (Ap A1)<|
 ED A1
def Ea.Kc:=kd 126 Ea.p fun x=>Ea.k x.1.1
theorem Ea.Kh:Ea.Kc.Holds prog:=kh AH hn Ea.ok (by kernel_rfl)
def Em.k (n:Int) (k0:CK) (k1:CT):R2 Int CK CT:=
 (Ea.k n).bind fun y2=>
 (BZ.k 1 ((-1)) ((-1)) ((-1)) y2.1.1 [] k0 k1).bind A7
def Em.Kc:=kd 165 Em.p fun x=>Em.k x.1.2.1 x.2.1 x.2.2.1
theorem Em.Kh:Em.Kc.Holds prog:=kh AH (hc Ea.Kh (hc BZ.Kh hn)) Em.ok (by kernel_rfl)
def EL.k (n:Int) (k0:CK) (k1:CT):R2 Int CK CT:=
 (BZ.k 2 ((-1)) ((-1)) ((-1)) n [] k0 k1).bind A7
def EL.Kc:=kd 134 EL.p fun x=>EL.k x.1.2.1 x.2.1 x.2.2.1
theorem EL.Kh:EL.Kc.Holds prog:=kh AH (hc BZ.Kh hn) EL.ok (by kernel_rfl)
def Ir.k (n:Int) (k0:CK) (k1:CT):R2 Int CK CT:=
 let A1:=k0.f.Al+(1:Int) -1
 ci (k0.f.Al=4096) ((Ag.k 4 n k0 k1).bind fun y3=>
 AV 0 y3.2.1 y3.2.2.1)<|
 ck (Ap (k0.f.Al+1))<|
 ck (Ap A1)<|
 AV A1 (CK.X9 k0 (Dop.DR.mk k0.f.name k0.f.params (k0.f.Al+1) k0.f.frame k0.f.body)) k1
def Ir.Kc:=kd 164 Ir.p fun x=>Ir.k x.1.2.1 x.2.1 x.2.2.1
theorem Ir.Kh:Ir.Kc.Holds prog:=kh AH (hc Ag.Kh hn) Ir.ok (by kernel_rfl)
def Iw.k (t:Int) (k0:CK) (k1:CT):R2 Int CK CT:=
 (Ip.k t k1).bind fun y2=>
 AV y2.1.1 k0 y2.2.1
def Iw.Kc:=kd 238 Iw.p fun x=>Iw.k x.1.2.1 x.2.1 x.2.2.1
theorem Iw.Kh:Iw.Kc.Holds prog:=kh AH (hc Ip.Kh hn) Iw.ok (by kernel_rfl)
def KR.k (a:Int) (k0:CK) (k1:CT):R2 Int CK CT:=
 (BZ.k 4 a ((-1)) ((-1)) 0 [] k0 k1).bind A7
def KR.Kc:=kd 239 KR.p fun x=>KR.k x.1.2.1 x.2.1 x.2.2.1
theorem KR.Kh:KR.Kc.Holds prog:=kh AH (hc BZ.Kh hn) KR.ok (by kernel_rfl)
def II.k (a t:Int) (k0:CK) (k1:CT):R2 Dop.Ae CK CT:=
 (Co.k t k0 k1).bind fun y2=>
 ci (y2.1.1=5) ((F5.k t y2.2.1 y2.2.2.1).bind fun y4=>
 (Iw.k y4.1.1 y4.2.1 y4.2.2.1).bind fun y5=>
 AV (Dop.Ae.mk a y5.1.1 0 0 false) y5.2.1 y5.2.2.1)<|
 ci (y2.1.1=6) (AV (Dop.Ae.mk a t 2 a false) y2.2.1 y2.2.2.1)<|
 (KR.k a y2.2.1 y2.2.2.1).bind fun y5=>
 AV (Dop.Ae.mk y5.1.1 t 2 a false) y5.2.1 y5.2.2.1
def II.Kc:=kd 217 II.p fun x=>II.k x.1.2.1 x.1.2.2.1 x.2.1 x.2.2.1
theorem II.Kh:II.Kc.Holds prog:=kh AH (hc Co.Kh (hc F5.Kh (hc Iw.Kh (hc KR.Kh hn)))) II.ok (by kernel_rfl)
def Ff.k (p:Dop.B6) (k0:CK) (k1:CT):R2 Int CK CT:=
 ci (p.kind=3) ((BZ.k 3 ((-1)) ((-1)) ((-1)) p.n [] k0 k1).bind A7)<|
 (Em.k p.n k0 k1).bind A7
def Ff.Kc:=kd 133 Ff.p fun x=>Ff.k x.1.2.1 x.2.1 x.2.2.1
theorem Ff.Kh:Ff.Kc.Holds prog:=kh AH (hc BZ.Kh (hc Em.Kh hn)) Ff.ok (by kernel_rfl)
def Hf.k (op a:Int) (k0:CK) (k1:CT):R2 Int CK CT:=
 (BZ.k 7 a ((-1)) ((-1)) op [] k0 k1).bind A7
def Hf.Kc:=kd 229 Hf.p fun x=>Hf.k x.1.2.1 x.1.2.2.1 x.2.1 x.2.2.1
theorem Hf.Kh:Hf.Kc.Holds prog:=kh AH (hc BZ.Kh hn) Hf.ok (by kernel_rfl)
def Hg.k (r a:Int) (k0:CK) (k1:CT):R2 Int CK CT:=
 (BZ.k 6 a ((-1)) ((-1)) r [] k0 k1).bind A7
def Hg.Kc:=kd 230 Hg.p fun x=>Hg.k x.1.2.1 x.1.2.2.1 x.2.1 x.2.2.1
theorem Hg.Kh:Hg.Kc.Holds prog:=kh AH (hc BZ.Kh hn) Hg.ok (by kernel_rfl)
def Bp.k (kind a b d e n:Int) (text:List UInt8) (k0:CK) (k1:CT):R2 Int CK CT:=
 ck (Cc none (room 80 (k0.nodes.length+(Dop.AR.mk kind a b d e text n 0 0::[]).length)))<|
 ck (Ap (I (k0.nodes++Dop.AR.mk kind a b d e text n 0 0::[]).length -1))<|
 AV (I (k0.nodes++Dop.AR.mk kind a b d e text n 0 0::[]).length -1) (CK.E9 k0 (k0.nodes++Dop.AR.mk kind a b d e text n 0 0::[])) k1
def Bp.Kc:=kd 131 Bp.p fun x=>Bp.k x.1.2.1 x.1.2.2.1 x.1.2.2.2.1 x.1.2.2.2.2.1 x.1.2.2.2.2.2.1 x.1.2.2.2.2.2.2.1 x.1.2.2.2.2.2.2.2.1 x.2.1 x.2.2.1
theorem Bp.Kh:Bp.Kc.Holds prog:=kh AH hn Bp.ok (by kernel_rfl)
abbrev PR.T:Type:=Int->Int->Bool->Int->Int->Bool->CK->CT->Dop.Ae->R2 Int CK CT
abbrev Lk.T:Type:=Int->Int->Int->Bool->CK->CT->Dop.Ae->R2 Int CK CT
abbrev BN.KT:Type:=PR.T×Lk.T×Unit
def PR.kB (tK:BN.KT):PR.T:=fun t2 t3 t4 t11 t12 t13 k0 k1 b2=>
 ci (t12=4) ((Dp.k b2.Ay k0 k1).bind fun y3=>
 let z1:R2 Int CK CT:=
 (DY.k b2.Ay y3.2.2.1).bind fun y6=>
 ci y6.1.1 ((DY.k t2 y6.2.1).bind fun y8=>
 tK.2.1 t3 t11 t12 y8.1.1 y3.2.1 y8.2.1 b2)<|
 tK.2.1 t3 t11 t12 false y3.2.1 y6.2.1 b2
 ci y3.1.1 (ci t4 (z1)<|
 tK.2.1 t3 t11 t12 b2.zero y3.2.1 y3.2.2.1 b2)<|
 ci t4 (z1)<|
 tK.2.1 t3 t11 t12 t13 y3.2.1 y3.2.2.1 b2)<|
 ci t4 ((DY.k b2.Ay k1).bind fun y4=>
 ci y4.1.1 ((DY.k t2 y4.2.1).bind fun y6=>
 tK.2.1 t3 t11 t12 y6.1.1 k0 y6.2.1 b2)<|
 tK.2.1 t3 t11 t12 false k0 y4.2.1 b2)<|
 tK.2.1 t3 t11 t12 t13 k0 k1 b2
def Lk.kB (tK:BN.KT):Lk.T:=fun t3 t11 t12 t13 k0 k1 b2=>
 ci (!t13) ((Ag.k 8 t3 k0 k1).bind fun y3=>
 AV y3.1.1.n y3.2.1 y3.2.2.1)<|
 ci (t12=3) (ci (!(t11=3)) ((Hf.k 22 b2.n k0 k1).bind A7)<|
 AV b2.n k0 k1)<|
 AV b2.n k0 k1
def BN.kS (tK:BN.KT):BN.KT:=(PR.kB tK,Lk.kB tK,())
def BN.kL (n:Nat):BN.KT:=Cv BN.kS n
def BN.k0 (tK:BN.KT) (t1:Dop.Ae) (t2 t3:Int) (t4:Bool) (k0:CK) (k1:CT):R2 Int CK CT:=
 (Co.k t1.Ay k0 k1).bind fun y2=>
 (Co.k t2 y2.2.1 y2.2.2.1).bind fun y3=>
 (Dp.k t1.Ay y3.2.1 y3.2.2.1).bind fun y4=>
 ci y4.1.1 ((Dp.k t2 y4.2.1 y4.2.2.1).bind fun y6=>
 ci (y2.1.1=4) (ci (y3.1.1=4) ((F5.k t1.Ay y6.2.1 y6.2.2.1).bind fun y9=>
 (F5.k t2 y9.2.1 y9.2.2.1).bind fun y10=>
 ci (t1.Ay=t2) (tK.1 t2 t3 t4 y2.1.1 y3.1.1 true y10.2.1 y10.2.2.1 t1)<|
 ci (y9.1.1=0) (tK.1 t2 t3 t4 y2.1.1 y3.1.1 true y10.2.1 y10.2.2.1 t1)<|
 tK.1 t2 t3 t4 y2.1.1 y3.1.1 (decide (y10.1.1=0)) y10.2.1 y10.2.2.1 t1)<|
 tK.1 t2 t3 t4 y2.1.1 y3.1.1 y6.1.1 y6.2.1 y6.2.2.1 t1)<|
 tK.1 t2 t3 t4 y2.1.1 y3.1.1 y6.1.1 y6.2.1 y6.2.2.1 t1)<|
 ci (y2.1.1=4) (ci (y3.1.1=4) ((F5.k t1.Ay y4.2.1 y4.2.2.1).bind fun y8=>
 (F5.k t2 y8.2.1 y8.2.2.1).bind fun y9=>
 ci (t1.Ay=t2) (tK.1 t2 t3 t4 y2.1.1 y3.1.1 true y9.2.1 y9.2.2.1 t1)<|
 ci (y8.1.1=0) (tK.1 t2 t3 t4 y2.1.1 y3.1.1 true y9.2.1 y9.2.2.1 t1)<|
 tK.1 t2 t3 t4 y2.1.1 y3.1.1 (decide (y9.1.1=0)) y9.2.1 y9.2.2.1 t1)<|
 tK.1 t2 t3 t4 y2.1.1 y3.1.1 false y4.2.1 y4.2.2.1 t1)<|
 tK.1 t2 t3 t4 y2.1.1 y3.1.1 false y4.2.1 y4.2.2.1 t1
def BN.k (t1:Dop.Ae) (t2 t3:Int) (t4:Bool) (k0:CK) (k1:CT):R2 Int CK CT:=BN.k0 (BN.kL 1000000) t1 t2 t3 t4 k0 k1
def BN.Kc:=kd 195 BN.p fun x=>BN.k x.1.2.1 x.1.2.2.1 x.1.2.2.2.1 x.1.2.2.2.2.1 x.2.1 x.2.2.1
theorem BN.Kh:BN.Kc.Holds prog:=E7 AH (hc Co.Kh (hc Dp.Kh (hc F5.Kh (hc DY.Kh (hc Ag.Kh (hc Hf.Kh hn)))))) BN.ok (fun t x=>BN.k0 t x.1.2.1 x.1.2.2.1 x.1.2.2.2.1 x.1.2.2.2.2.1 x.2.1 x.2.2.1) (fun c=>(fun t2 t3 t4 t11 t12 t13 k0 k1 b2=>c 7 BN.q7 rfl (((),t2,t3,t4,(),t11,t12,t13,()),(k0,k1,(b2,()),())),fun t3 t11 t12 t13 k0 k1 b2=>c 11 BN.aV rfl (((),t3,(),t11,t12,t13,()),(k0,k1,(b2,()),())),())) BN.kS (by kernel_rfl)
def Cj.k (op a b:Int) (k0:CK) (k1:CT):R2 Int CK CT:=
 (BZ.k 8 a b ((-1)) op [] k0 k1).bind A7
def Cj.Kc:=kd 243 Cj.p fun x=>Cj.k x.1.2.1 x.1.2.2.1 x.1.2.2.2.1 x.2.1 x.2.2.1
theorem Cj.Kh:Cj.Kc.Holds prog:=kh AH (hc BZ.Kh hn) Cj.ok (by kernel_rfl)
def GP.k (n size:Int) (k0:CK) (k1:CT):R2 Int CK CT:=
 ci (size=1) (AV n k0 k1)<|
 (Em.k size k0 k1).bind fun y3=>
 (Cj.k 3 n y3.1.1 y3.2.1 y3.2.2.1).bind A7
def GP.Kc:=kd 244 GP.p fun x=>GP.k x.1.2.1 x.1.2.2.1 x.2.1 x.2.2.1
theorem GP.Kh:GP.Kc.Holds prog:=kh AH (hc Em.Kh (hc Cj.Kh hn)) GP.ok (by kernel_rfl)
abbrev PJ.T:Type:=Int->Int->Int->CK->CT->R2 Int CK CT
abbrev LR.T:Type:=Int->Int->Int->Int->Int->CK->CT->R2 Int CK CT
abbrev C9.KT:Type:=PJ.T×LR.T×Unit
def PJ.kB (tK:C9.KT):PJ.T:=fun t1 t2 t7 k0 k1=>
 let A1:=List.getD k0.t.types t7.toNat Dop.d6
 let A2:=List.getD k0.num A1.elem.toNat 0
 let z1:R2 Int CK CT:=
 ck (0<=t1/\t1<I k0.num.length)<|
 ck (t1.toNat<k0.num.length)<|
 AV (List.getD k0.num t1.toNat 0) k0 k1
 ci (t7<=t1) (ci (t7<I k0.t.types.length) (ck (0<=t7/\t7<I k0.t.types.length)<|
 ci (A1.kind=4) (ck (0<=A1.elem/\A1.elem<I k0.num.length)<|
 ck (A1.elem.toNat<k0.num.length)<|
 (Ip.k A2 k1).bind fun y5=>
 tK.2.1 t1 t2 t7 y5.1.1 y5.1.2.1 k0 y5.2.1)<|
 ci (A1.kind=5) (ck (0<=A1.elem/\A1.elem<I k0.num.length)<|
 ck (A1.elem.toNat<k0.num.length)<|
 (KO.k A2 (A1.n) k1).bind fun y6=>
 tK.2.1 t1 t2 t7 y6.1.1 y6.1.2.1 k0 y6.2.1)<|
 ci (A1.kind=6) ((Iq.k (A1.name) k1).bind fun y7=>
 tK.2.1 t1 t2 t7 y7.1.1 y7.1.2.1 k0 y7.2.1)<|
 tK.2.1 t1 t2 t7 t7 0 k0 k1)<|
 z1)<|
 z1
def LR.kB (tK:C9.KT):LR.T:=fun t1 t2 t7 t9 t10 k0 k1=>
 ci (!(t10=0)) ((Ag.k t10 t2 k0 k1).bind fun y3=>
 AV 1 y3.2.1 y3.2.2.1)<|
 ck (Cc none (room 8 (k0.num.length+(t9::[]).length)))<|
 ck (Ap (t7+1))<|
 tK.1 t1 t2 (t7+1) ((CK.NU k0 (k0.num++t9::[]))) k1
def C9.kS (tK:C9.KT):C9.KT:=(PJ.kB tK,LR.kB tK,())
def C9.kL (n:Nat):C9.KT:=Cv C9.kS n
def C9.k0 (tK:C9.KT) (t1 t2:Int) (k0:CK) (k1:CT):R2 Int CK CT:=
 tK.1 t1 t2 (I k0.num.length) k0 k1
def C9.k (t1 t2:Int) (k0:CK) (k1:CT):R2 Int CK CT:=C9.k0 (C9.kL 1000000) t1 t2 k0 k1
def C9.Kc:=kd 121 C9.p fun x=>C9.k x.1.2.1 x.1.2.2.1 x.2.1 x.2.2.1
theorem C9.Kh:C9.Kc.Holds prog:=E7 AH (hc Ip.Kh (hc KO.Kh (hc Iq.Kh (hc Ag.Kh hn)))) C9.ok (fun t x=>C9.k0 t x.1.2.1 x.1.2.2.1 x.2.1 x.2.2.1) (fun c=>(fun t1 t2 t7 k0 k1=>c 2 C9.q2 rfl (((),t1,t2,t7,()),(k0,k1,())),fun t1 t2 t7 t9 t10 k0 k1=>c 13 C9.Xq rfl (((),t1,t2,t7,t9,t10,()),(k0,k1,())),())) C9.kS (by kernel_rfl)
def Iv.k (v:Dop.Ae) (at_:Int) (k0:CK) (k1:CT):R2 Dop.Ae CK CT:=
 ci (!(k0.e=0)) ((Ag.k 8 at_ k0 k1).bind A7)<|
 (Co.k v.Ay k0 k1).bind fun y3=>
 ci (!(y3.1.1=4)) ((Ag.k 8 at_ y3.2.1 y3.2.2.1).bind A7)<|
 (F5.k v.Ay y3.2.1 y3.2.2.1).bind fun y5=>
 (Be.k y5.1.1 y5.2.2.1).bind fun y6=>
 ci (!y6.1.2.1) ((Ag.k 8 at_ y5.2.1 y6.2.1).bind A7)<|
 (II.k v.n y5.1.1 y5.2.1 y6.2.1).bind A7
def Iv.Kc:=kd 225 Iv.p fun x=>Iv.k x.1.2.1 x.1.2.2.1 x.2.1 x.2.2.1
theorem Iv.Kh:Iv.Kc.Holds prog:=kh AH (hc Co.Kh (hc Ag.Kh (hc F5.Kh (hc Be.IL (hc II.Kh hn))))) Iv.ok (by kernel_rfl)
abbrev Lp.T:Type:=Int->CK->CT->Dop.Ae->Dop.Ae->Dop.Ae->Dop.Ae->R2 Dop.Ae CK CT
abbrev EM.KT:Type:=Lp.T×Unit
def Lp.kB (tK:EM.KT):Lp.T:=fun t11 k0 k1 b2 b3 b4 b5=>
 (BZ.k 9 b2.n b3.n b4.n 0 [] k0 k1).bind fun y2=>
 AV (Dop.Ae.mk y2.1.1 t11 0 0 false) y2.2.1 y2.2.2.1
def EM.kS (tK:EM.KT):EM.KT:=(Lp.kB tK,())
def EM.kL (n:Nat):EM.KT:=Cv EM.kS n
def EM.k0 (tK:EM.KT) (t1 t2 t3:Dop.Ae) (t4:Int) (k0:CK) (k1:CT):R2 Dop.Ae CK CT:=
 let A1:=Dop.Ae.mk 0 0 0 0 false
 ci (!(k0.e=0)) (AV (Dop.Ae.mk (-1) 1 0 0 false) k0 k1)<|
 (Dp.k t2.Ay k0 k1).bind fun y3=>
 ci y3.1.1 ((Dp.k t3.Ay y3.2.1 y3.2.2.1).bind fun y5=>
 ci y5.1.1 ((Gw.k t2.Ay t3.Ay y5.2.1 y5.2.2.1).bind fun y7=>
 tK.1 y7.1.1 y7.2.1 y7.2.2.1 t1 t2 t3 A1)<|
 ci (t2.Ay=t3.Ay) (tK.1 t2.Ay y5.2.1 y5.2.2.1 t1 t2 t3 A1)<|
 (Co.k t3.Ay y5.2.1 y5.2.2.1).bind fun y8=>
 ci (y8.1.1=4) (ci t2.zero (tK.1 t3.Ay y8.2.1 y8.2.2.1 t1 t2 t3 A1)<|
 (Co.k t2.Ay y8.2.1 y8.2.2.1).bind fun y11=>
 ci (y11.1.1=4) (ci t3.zero (tK.1 t2.Ay y11.2.1 y11.2.2.1 t1 t2 t3 A1)<|
 (Ag.k 8 t4 y11.2.1 y11.2.2.1).bind A7)<|
 (Ag.k 8 t4 y11.2.1 y11.2.2.1).bind A7)<|
 (Co.k t2.Ay y8.2.1 y8.2.2.1).bind fun y10=>
 ci (y10.1.1=4) (ci t3.zero (tK.1 t2.Ay y10.2.1 y10.2.2.1 t1 t2 t3 A1)<|
 (Ag.k 8 t4 y10.2.1 y10.2.2.1).bind A7)<|
 (Ag.k 8 t4 y10.2.1 y10.2.2.1).bind A7)<|
 ci (t2.Ay=t3.Ay) (tK.1 t2.Ay y3.2.1 y3.2.2.1 t1 t2 t3 A1)<|
 (Co.k t3.Ay y3.2.1 y3.2.2.1).bind fun y6=>
 ci (y6.1.1=4) (ci t2.zero (tK.1 t3.Ay y6.2.1 y6.2.2.1 t1 t2 t3 A1)<|
 (Co.k t2.Ay y6.2.1 y6.2.2.1).bind fun y9=>
 ci (y9.1.1=4) (ci t3.zero (tK.1 t2.Ay y9.2.1 y9.2.2.1 t1 t2 t3 A1)<|
 (Ag.k 8 t4 y9.2.1 y9.2.2.1).bind A7)<|
 (Ag.k 8 t4 y9.2.1 y9.2.2.1).bind A7)<|
 (Co.k t2.Ay y6.2.1 y6.2.2.1).bind fun y8=>
 ci (y8.1.1=4) (ci t3.zero (tK.1 t2.Ay y8.2.1 y8.2.2.1 t1 t2 t3 A1)<|
 (Ag.k 8 t4 y8.2.1 y8.2.2.1).bind A7)<|
 (Ag.k 8 t4 y8.2.1 y8.2.2.1).bind A7
def EM.k (t1 t2 t3:Dop.Ae) (t4:Int) (k0:CK) (k1:CT):R2 Dop.Ae CK CT:=EM.k0 (EM.kL 1000000) t1 t2 t3 t4 k0 k1
def EM.Kc:=kd 224 EM.p fun x=>EM.k x.1.2.1 x.1.2.2.1 x.1.2.2.2.1 x.1.2.2.2.2.1 x.2.1 x.2.2.1
theorem EM.Kh:EM.Kc.Holds prog:=E7 AH (hc Dp.Kh (hc Gw.Kh (hc Co.Kh (hc Ag.Kh (hc BZ.Kh hn))))) EM.ok (fun t x=>EM.k0 t x.1.2.1 x.1.2.2.1 x.1.2.2.2.1 x.1.2.2.2.2.1 x.2.1 x.2.2.1) (fun c=>(fun t11 k0 k1 b2 b3 b4 b5=>c 11 EM.aV rfl (((),(),(),(),(),t11,()),(k0,k1,(b2,()),(b3,()),(b4,()),(b5,()),())),())) EM.kS (by kernel_rfl)
def Eb.k (ahead n:Int) (k0:CK) (k1:CT):R2 Int CK CT:=
 ci (ahead<0) (AV n k0 k1)<|
 (BZ.k 15 ahead n ((-1)) 0 [] k0 k1).bind A7
def Eb.Kc:=kd 246 Eb.p fun x=>Eb.k x.1.2.1 x.1.2.2.1 x.2.1 x.2.2.1
theorem Eb.Kh:Eb.Kc.Holds prog:=kh AH (hc BZ.Kh hn) Eb.ok (by kernel_rfl)
def Df.k (l:Dop.Ae) (n:Int) (k0:CK) (k1:CT):R2 Int CK CT:=
 ci (l.left=1) ((Hg.k l.at_ n k0 k1).bind A7)<|
 (BZ.k 5 l.at_ n ((-1)) 0 [] k0 k1).bind A7
def Df.Kc:=kd 196 Df.p fun x=>Df.k x.1.2.1 x.1.2.2.1 x.2.1 x.2.2.1
theorem Df.Kh:Df.Kc.Holds prog:=kh AH (hc Hg.Kh (hc BZ.Kh hn)) Df.ok (by kernel_rfl)
def Mv.k :F8 (List (List UInt8×Dop.LH)):=
 ED (BO (BO (BO (BO (BO (BO (BO (BO (BO (BO (BO (BO (BO (BO (BO (BO (([]:List (List UInt8×Dop.LH))) ([43]:List UInt8) (Dop.LH.mk 1 1)) ([45]:List UInt8) (Dop.LH.mk 2 2)) ([42]:List UInt8) (Dop.LH.mk 3 3)) ([47]:List UInt8) (Dop.LH.mk 4 6)) ([37]:List UInt8) (Dop.LH.mk 5 7)) ([38]:List UInt8) (Dop.LH.mk 8 8)) ([124]:List UInt8) (Dop.LH.mk 9 9)) ([94]:List UInt8) (Dop.LH.mk 10 10)) ([60,60]:List UInt8) (Dop.LH.mk 11 11)) ([62,62]:List UInt8) (Dop.LH.mk 12 13)) ([61,61]:List UInt8) (Dop.LH.mk 14 14)) ([33,61]:List UInt8) (Dop.LH.mk 15 15)) ([60]:List UInt8) (Dop.LH.mk 16 18)) ([60,61]:List UInt8) (Dop.LH.mk 17 19)) ([62]:List UInt8) (Dop.LH.mk 16 18)) ([62,61]:List UInt8) (Dop.LH.mk 17 19))
def Mv.Kc:=kd 241 Mv.p fun x=>Mv.k
theorem Mv.Kh:Mv.Kc.Holds prog:=kh AH hn Mv.ok (by kernel_rfl)
def KS.k (l:Dop.Ae) (at_:Int) (k0:CK) (k1:CT):ee Int Dop.Ae CK CT:=
 ci (!(l.left=2)) (Nn (-1) l k0 k1)<|
 (Ir.k at_ k0 k1).bind fun y3=>
 (Hg.k y3.1.1 l.at_ y3.2.1 y3.2.2.1).bind fun y4=>
 (EL.k y3.1.1 y4.2.1 y4.2.2.1).bind fun y5=>
 (EL.k y3.1.1 y5.2.1 y5.2.2.1).bind fun y6=>
 (KR.k y6.1.1 y6.2.1 y6.2.2.1).bind fun y7=>
 Nn y4.1.1 (Dop.Ae.mk y7.1.1 l.Ay 2 y5.1.1 false) y7.2.1 y7.2.2.1
def KS.Kc:=kd 245 KS.p fun x=>KS.k x.1.2.1 x.1.2.2.1 x.2.1 x.2.2.1
theorem KS.Kh:KS.Kc.Holds prog:=kh AH (hc Ir.Kh (hc Hg.Kh (hc EL.Kh (hc KR.Kh hn)))) KS.ok (by kernel_rfl)
abbrev PU.T:Type:=List UInt8->Int->Bool->Bool->CK->CT->Dop.Ae->Dop.Ae->Dop.Ae->R2 Dop.Ae CK CT
abbrev Ll.T:Type:=List UInt8->Int->Bool->Bool->Bool->Int->CK->CT->Dop.Ae->Dop.Ae->Dop.Ae->Dop.LH->R2 Dop.Ae CK CT
abbrev Lm.T:Type:=List UInt8->Int->CK->CT->Dop.Ae->Dop.Ae->Dop.Ae->Dop.LH->R2 Dop.Ae CK CT
abbrev Ln.T:Type:=List UInt8->Int->Bool->Bool->Int->CK->CT->Dop.Ae->Dop.Ae->Dop.Ae->Dop.LH->R2 Dop.Ae CK CT
abbrev Lo.T:Type:=List UInt8->Int->Int->CK->CT->Dop.Ae->Dop.Ae->Dop.Ae->Dop.LH->R2 Dop.Ae CK CT
abbrev Bl.KT:Type:=PU.T×Ll.T×Lm.T×Ln.T×Lo.T×Unit
def PU.kB (tK:Bl.KT):PU.T:=fun t1 t4 t11 t12 k0 k1 b2 b3 b4=>
 (Mv.k).bind fun y2=>
 ck (([32]:List UInt8).length+t1.length<=9223372036854775807)<|
 ck (((32:UInt8)::[]++t1).length+([32]:List UInt8).length<=9223372036854775807)<|
 ck (Uz ([32,61,61,32,33,61,32,60,32,60,61,32,62,32,62,61,32]:List UInt8))<|
 (Jg.k b2.Ay k0 k1).bind fun y3=>
 ci y3.1.1 (ci (!(t1=(62:UInt8)::(62:UInt8)::[])) (tK.2.1 t1 t4 t11 t12 (Lib.contains ([32,61,61,32,33,61,32,60,32,60,61,32,62,32,62,61,32]:List UInt8) ((32:UInt8)::[]++t1++(32:UInt8)::[])) 1 y3.2.1 y3.2.2.1 b2 b3 b4 ((AL y2.1.1 t1).getD Dop.d14))<|
 (Jg.k b2.Ay y3.2.1 y3.2.2.1).bind fun y6=>
 ci y6.1.1 (tK.2.1 t1 t4 t11 t12 (Lib.contains ([32,61,61,32,33,61,32,60,32,60,61,32,62,32,62,61,32]:List UInt8) ((32:UInt8)::[]++t1++(32:UInt8)::[])) 1 y6.2.1 y6.2.2.1 b2 b3 b4 ((AL y2.1.1 t1).getD Dop.d14))<|
 tK.2.1 t1 t4 t11 t12 (Lib.contains ([32,61,61,32,33,61,32,60,32,60,61,32,62,32,62,61,32]:List UInt8) ((32:UInt8)::[]++t1++(32:UInt8)::[])) 0 y6.2.1 y6.2.2.1 b2 b3 b4 ((AL y2.1.1 t1).getD Dop.d14))<|
 (Jg.k b3.Ay y3.2.1 y3.2.2.1).bind fun y5=>
 ci y5.1.1 (ci (!(t1=(62:UInt8)::(62:UInt8)::[])) (tK.2.1 t1 t4 t11 t12 (Lib.contains ([32,61,61,32,33,61,32,60,32,60,61,32,62,32,62,61,32]:List UInt8) ((32:UInt8)::[]++t1++(32:UInt8)::[])) 1 y5.2.1 y5.2.2.1 b2 b3 b4 ((AL y2.1.1 t1).getD Dop.d14))<|
 (Jg.k b2.Ay y5.2.1 y5.2.2.1).bind fun y8=>
 ci y8.1.1 (tK.2.1 t1 t4 t11 t12 (Lib.contains ([32,61,61,32,33,61,32,60,32,60,61,32,62,32,62,61,32]:List UInt8) ((32:UInt8)::[]++t1++(32:UInt8)::[])) 1 y8.2.1 y8.2.2.1 b2 b3 b4 ((AL y2.1.1 t1).getD Dop.d14))<|
 tK.2.1 t1 t4 t11 t12 (Lib.contains ([32,61,61,32,33,61,32,60,32,60,61,32,62,32,62,61,32]:List UInt8) ((32:UInt8)::[]++t1++(32:UInt8)::[])) 0 y8.2.1 y8.2.2.1 b2 b3 b4 ((AL y2.1.1 t1).getD Dop.d14))<|
 tK.2.1 t1 t4 t11 t12 (Lib.contains ([32,61,61,32,33,61,32,60,32,60,61,32,62,32,62,61,32]:List UInt8) ((32:UInt8)::[]++t1++(32:UInt8)::[])) 0 y5.2.1 y5.2.2.1 b2 b3 b4 ((AL y2.1.1 t1).getD Dop.d14)
def Ll.kB (tK:Bl.KT):Ll.T:=fun t1 t4 t11 t12 t14 t16 k0 k1 b2 b3 b4 b5=>
 let A1:=(Ag.k 8 t4 k0 k1).bind A7
 ci t14 (ci (!t11 == t12) (ci t11 (ci (!b3.zero) (ci t12 (ci (!b2.zero) A1<|
 ci t11 (ci t12 (ci (!(b2.Ay=b3.Ay)) A1<|
 tK.2.2.1 t1 t16 k0 k1 b2 b3 b4 b5)<|
 tK.2.2.1 t1 t16 k0 k1 b2 b3 b4 b5)<|
 tK.2.2.1 t1 t16 k0 k1 b2 b3 b4 b5)<|
 (Ag.k 8 t4 k0 k1).bind A7)<|
 ci t11 (ci t12 (ci (!(b2.Ay=b3.Ay)) A1<|
 tK.2.2.1 t1 t16 k0 k1 b2 b3 b4 b5)<|
 tK.2.2.1 t1 t16 k0 k1 b2 b3 b4 b5)<|
 tK.2.2.1 t1 t16 k0 k1 b2 b3 b4 b5)<|
 ci t12 (ci (!b2.zero) A1<|
 ci t11 (ci t12 (ci (!(b2.Ay=b3.Ay)) A1<|
 tK.2.2.1 t1 t16 k0 k1 b2 b3 b4 b5)<|
 tK.2.2.1 t1 t16 k0 k1 b2 b3 b4 b5)<|
 tK.2.2.1 t1 t16 k0 k1 b2 b3 b4 b5)<|
 (Ag.k 8 t4 k0 k1).bind A7)<|
 ci t11 (ci t12 (ci (!(b2.Ay=b3.Ay)) A1<|
 tK.2.2.1 t1 t16 k0 k1 b2 b3 b4 b5)<|
 tK.2.2.1 t1 t16 k0 k1 b2 b3 b4 b5)<|
 tK.2.2.1 t1 t16 k0 k1 b2 b3 b4 b5)<|
 tK.2.2.2.1 t1 t4 t11 t12 t16 k0 k1 b2 b3 b4 b5
def Lm.kB (tK:Bl.KT):Lm.T:=fun t1 t16 k0 k1 b2 b3 b4 b5=>
 ci (t1=(62:UInt8)::[]) (ck (0<=t16/\t16<I 2)<|
 ck (t16.toNat<(b5.x0::b5.x1::[]).length)<|
 (Cj.k ((b5.x0::b5.x1::[]).getD t16.toNat 0) b3.n b2.n k0 k1).bind fun y3=>
 AV (Dop.Ae.mk y3.1.1 1 0 0 false) y3.2.1 y3.2.2.1)<|
 ci (t1=(62:UInt8)::(61:UInt8)::[]) (ck (0<=t16/\t16<I 2)<|
 ck (t16.toNat<(b5.x0::b5.x1::[]).length)<|
 (Cj.k ((b5.x0::b5.x1::[]).getD t16.toNat 0) b3.n b2.n k0 k1).bind fun y4=>
 AV (Dop.Ae.mk y4.1.1 1 0 0 false) y4.2.1 y4.2.2.1)<|
 ck (0<=t16/\t16<I 2)<|
 ck (t16.toNat<(b5.x0::b5.x1::[]).length)<|
 (Cj.k ((b5.x0::b5.x1::[]).getD t16.toNat 0) b2.n b3.n k0 k1).bind fun y4=>
 AV (Dop.Ae.mk y4.1.1 1 0 0 false) y4.2.1 y4.2.2.1
def Ln.kB (tK:Bl.KT):Ln.T:=fun t1 t4 t11 t12 t16 k0 k1 b2 b3 b4 b5=>
 let A4:=Gw.k b2.Ay b3.Ay k0 k1
 let A3:=F5.k b3.Ay k0 k1
 let A2:=F5.k b2.Ay k0 k1
 let A1:=(Ag.k 8 t4 k0 k1).bind A7
 let z1:R2 Dop.Ae CK CT:=
 ci (!(t1=(43:UInt8)::[])) (ci (!(t1=(45:UInt8)::[])) A1<|
 ci t12 A1<|
 ci t11 (A2.bind fun y9=>
 ck ((0:Int)<=0/\0<I 2)<|
 (GP.k b3.n y9.1.2.1 y9.2.1 y9.2.2.1).bind fun y10=>
 (Cj.k b5.x0 b2.n y10.1.1 y10.2.1 y10.2.2.1).bind fun y11=>
 AV (Dop.Ae.mk y11.1.1 b2.Ay 0 0 false) y11.2.1 y11.2.2.1)<|
 A3.bind fun y9=>
 ck ((0:Int)<=0/\0<I 2)<|
 (GP.k b2.n y9.1.2.1 y9.2.1 y9.2.2.1).bind fun y10=>
 (Cj.k b5.x0 y10.1.1 b3.n y10.2.1 y10.2.2.1).bind fun y11=>
 AV (Dop.Ae.mk y11.1.1 b3.Ay 0 0 false) y11.2.1 y11.2.2.1)<|
 ci t11 (A2.bind fun y7=>
 ck ((0:Int)<=0/\0<I 2)<|
 (GP.k b3.n y7.1.2.1 y7.2.1 y7.2.2.1).bind fun y8=>
 (Cj.k b5.x0 b2.n y8.1.1 y8.2.1 y8.2.2.1).bind fun y9=>
 AV (Dop.Ae.mk y9.1.1 b2.Ay 0 0 false) y9.2.1 y9.2.2.1)<|
 A3.bind fun y7=>
 ck ((0:Int)<=0/\0<I 2)<|
 (GP.k b2.n y7.1.2.1 y7.2.1 y7.2.2.1).bind fun y8=>
 (Cj.k b5.x0 y8.1.1 b3.n y8.2.1 y8.2.2.1).bind fun y9=>
 AV (Dop.Ae.mk y9.1.1 b3.Ay 0 0 false) y9.2.1 y9.2.2.1
 let z2:R2 Dop.Ae CK CT:=
 ci t11 (A2.bind fun y8=>
 ck ((0:Int)<=0/\0<I 2)<|
 (GP.k b3.n y8.1.2.1 y8.2.1 y8.2.2.1).bind fun y9=>
 (Cj.k b5.x0 b2.n y9.1.1 y9.2.1 y9.2.2.1).bind fun y10=>
 AV (Dop.Ae.mk y10.1.1 b2.Ay 0 0 false) y10.2.1 y10.2.2.1)<|
 A3.bind fun y8=>
 ck ((0:Int)<=0/\0<I 2)<|
 (GP.k b2.n y8.1.2.1 y8.2.1 y8.2.2.1).bind fun y9=>
 (Cj.k b5.x0 y9.1.1 b3.n y9.2.1 y9.2.2.1).bind fun y10=>
 AV (Dop.Ae.mk y10.1.1 b3.Ay 0 0 false) y10.2.1 y10.2.2.1
 ci t11 (ci t12 (A2.bind fun y4=>
 ci (!(t1=(45:UInt8)::[])) ((Ag.k 8 t4 y4.2.1 y4.2.2.1).bind A7)<|
 ci (!(b2.Ay=b3.Ay)) ((Ag.k 8 t4 y4.2.1 y4.2.2.1).bind A7)<|
 (Cj.k 2 b2.n b3.n y4.2.1 y4.2.2.1).bind fun y7=>
 ci (y4.1.2.1=1) (AV (Dop.Ae.mk y7.1.1 1 0 0 false) y7.2.1 y7.2.2.1)<|
 (Em.k y4.1.2.1 y7.2.1 y7.2.2.1).bind fun y9=>
 (Cj.k 4 y7.1.1 y9.1.1 y9.2.1 y9.2.2.1).bind fun y10=>
 AV (Dop.Ae.mk y10.1.1 1 0 0 false) y10.2.1 y10.2.2.1)<|
 ci t11 (z1)<|
 ci t12 (ci (!(t1=(43:UInt8)::[])) (ci (!(t1=(45:UInt8)::[])) A1<|
 ci t12 A1<|
 ci t11 (A2.bind fun y10=>
 ck ((0:Int)<=0/\0<I 2)<|
 (GP.k b3.n y10.1.2.1 y10.2.1 y10.2.2.1).bind fun y11=>
 (Cj.k b5.x0 b2.n y11.1.1 y11.2.1 y11.2.2.1).bind fun y12=>
 AV (Dop.Ae.mk y12.1.1 b2.Ay 0 0 false) y12.2.1 y12.2.2.1)<|
 A3.bind fun y10=>
 ck ((0:Int)<=0/\0<I 2)<|
 (GP.k b2.n y10.1.2.1 y10.2.1 y10.2.2.1).bind fun y11=>
 (Cj.k b5.x0 y11.1.1 b3.n y11.2.1 y11.2.2.1).bind fun y12=>
 AV (Dop.Ae.mk y12.1.1 b3.Ay 0 0 false) y12.2.1 y12.2.2.1)<|
 z2)<|
 A4.bind fun y6=>
 tK.2.2.2.2.1 t1 t16 y6.1.1 y6.2.1 y6.2.2.1 b2 b3 b4 b5)<|
 ci t11 (ci (!(t1=(43:UInt8)::[])) (ci (!(t1=(45:UInt8)::[])) A1<|
 ci t12 A1<|
 z2)<|
 ci t11 (A2.bind fun y6=>
 ck ((0:Int)<=0/\0<I 2)<|
 (GP.k b3.n y6.1.2.1 y6.2.1 y6.2.2.1).bind fun y7=>
 (Cj.k b5.x0 b2.n y7.1.1 y7.2.1 y7.2.2.1).bind fun y8=>
 AV (Dop.Ae.mk y8.1.1 b2.Ay 0 0 false) y8.2.1 y8.2.2.1)<|
 A3.bind fun y6=>
 ck ((0:Int)<=0/\0<I 2)<|
 (GP.k b2.n y6.1.2.1 y6.2.1 y6.2.2.1).bind fun y7=>
 (Cj.k b5.x0 y7.1.1 b3.n y7.2.1 y7.2.2.1).bind fun y8=>
 AV (Dop.Ae.mk y8.1.1 b3.Ay 0 0 false) y8.2.1 y8.2.2.1)<|
 ci t12 (z1)<|
 A4.bind fun y5=>
 tK.2.2.2.2.1 t1 t16 y5.1.1 y5.2.1 y5.2.2.1 b2 b3 b4 b5
def Lo.kB (tK:Bl.KT):Lo.T:=fun t1 t16 t24 k0 k1 b2 b3 b4 b5=>
 let A1:=Gw.k b2.Ay b2.Ay k0 k1
 ci (t1=(60:UInt8)::(60:UInt8)::[]) (A1.bind fun y3=>
 ci (t1=(62:UInt8)::(62:UInt8)::[]) (ci (y3.1.1=2) (ck ((0:Int)<=1/\1<I 2)<|
 ck (Int.toNat 1<(b5.x0::b5.x1::[]).length)<|
 (Cj.k ((b5.x0::b5.x1::[]).getD (Int.toNat 1) 0) b2.n b3.n y3.2.1 y3.2.2.1).bind fun y6=>
 AV (Dop.Ae.mk y6.1.1 y3.1.1 0 0 false) y6.2.1 y6.2.2.1)<|
 ck (0<=t16/\t16<I 2)<|
 ck (t16.toNat<(b5.x0::b5.x1::[]).length)<|
 (Cj.k ((b5.x0::b5.x1::[]).getD t16.toNat 0) b2.n b3.n y3.2.1 y3.2.2.1).bind fun y6=>
 AV (Dop.Ae.mk y6.1.1 y3.1.1 0 0 false) y6.2.1 y6.2.2.1)<|
 ck (0<=t16/\t16<I 2)<|
 ck (t16.toNat<(b5.x0::b5.x1::[]).length)<|
 (Cj.k ((b5.x0::b5.x1::[]).getD t16.toNat 0) b2.n b3.n y3.2.1 y3.2.2.1).bind fun y5=>
 AV (Dop.Ae.mk y5.1.1 y3.1.1 0 0 false) y5.2.1 y5.2.2.1)<|
 ci (t1=(62:UInt8)::(62:UInt8)::[]) (A1.bind fun y4=>
 ci (t1=(62:UInt8)::(62:UInt8)::[]) (ci (y4.1.1=2) (ck ((0:Int)<=1/\1<I 2)<|
 ck (Int.toNat 1<(b5.x0::b5.x1::[]).length)<|
 (Cj.k ((b5.x0::b5.x1::[]).getD (Int.toNat 1) 0) b2.n b3.n y4.2.1 y4.2.2.1).bind fun y7=>
 AV (Dop.Ae.mk y7.1.1 y4.1.1 0 0 false) y7.2.1 y7.2.2.1)<|
 ck (0<=t16/\t16<I 2)<|
 ck (t16.toNat<(b5.x0::b5.x1::[]).length)<|
 (Cj.k ((b5.x0::b5.x1::[]).getD t16.toNat 0) b2.n b3.n y4.2.1 y4.2.2.1).bind fun y7=>
 AV (Dop.Ae.mk y7.1.1 y4.1.1 0 0 false) y7.2.1 y7.2.2.1)<|
 ck (0<=t16/\t16<I 2)<|
 ck (t16.toNat<(b5.x0::b5.x1::[]).length)<|
 (Cj.k ((b5.x0::b5.x1::[]).getD t16.toNat 0) b2.n b3.n y4.2.1 y4.2.2.1).bind fun y6=>
 AV (Dop.Ae.mk y6.1.1 y4.1.1 0 0 false) y6.2.1 y6.2.2.1)<|
 ci (t1=(62:UInt8)::(62:UInt8)::[]) (ci (t24=2) (ck ((0:Int)<=1/\1<I 2)<|
 ck (Int.toNat 1<(b5.x0::b5.x1::[]).length)<|
 (Cj.k ((b5.x0::b5.x1::[]).getD (Int.toNat 1) 0) b2.n b3.n k0 k1).bind fun y6=>
 AV (Dop.Ae.mk y6.1.1 t24 0 0 false) y6.2.1 y6.2.2.1)<|
 ck (0<=t16/\t16<I 2)<|
 ck (t16.toNat<(b5.x0::b5.x1::[]).length)<|
 (Cj.k ((b5.x0::b5.x1::[]).getD t16.toNat 0) b2.n b3.n k0 k1).bind fun y6=>
 AV (Dop.Ae.mk y6.1.1 t24 0 0 false) y6.2.1 y6.2.2.1)<|
 ck (0<=t16/\t16<I 2)<|
 ck (t16.toNat<(b5.x0::b5.x1::[]).length)<|
 (Cj.k ((b5.x0::b5.x1::[]).getD t16.toNat 0) b2.n b3.n k0 k1).bind fun y5=>
 AV (Dop.Ae.mk y5.1.1 t24 0 0 false) y5.2.1 y5.2.2.1
def Bl.kS (tK:Bl.KT):Bl.KT:=(PU.kB tK,Ll.kB tK,Lm.kB tK,Ln.kB tK,Lo.kB tK,())
def Bl.kL (n:Nat):Bl.KT:=Cv Bl.kS n
def Bl.k0 (tK:Bl.KT) (t1:List UInt8) (t2 t3:Dop.Ae) (t4:Int) (k0:CK) (k1:CT):R2 Dop.Ae CK CT:=
 ci (!(k0.e=0)) (AV (Dop.Ae.mk (-1) 1 0 0 false) k0 k1)<|
 (Co.k t2.Ay k0 k1).bind fun y3=>
 (Co.k t3.Ay y3.2.1 y3.2.2.1).bind fun y4=>
 tK.1 t1 t4 (decide (y3.1.1=4)) (decide (y4.1.1=4)) y4.2.1 y4.2.2.1 t2 t3 (Dop.Ae.mk 0 0 0 0 false)
def Bl.k (t1:List UInt8) (t2 t3:Dop.Ae) (t4:Int) (k0:CK) (k1:CT):R2 Dop.Ae CK CT:=Bl.k0 (Bl.kL 1000000) t1 t2 t3 t4 k0 k1
def Bl.Kc:=kd 219 Bl.p fun x=>Bl.k x.1.2.1 x.1.2.2.1 x.1.2.2.2.1 x.1.2.2.2.2.1 x.2.1 x.2.2.1
theorem Bl.Kh:Bl.Kc.Holds prog:=E7 AH (hc Co.Kh (hc Mv.Kh (hc contains.holds (hc Jg.Kh (hc Ag.Kh (hc Cj.Kh (hc F5.Kh (hc Em.Kh (hc GP.Kh (hc Gw.Kh hn)))))))))) Bl.ok (fun t x=>Bl.k0 t x.1.2.1 x.1.2.2.1 x.1.2.2.2.1 x.1.2.2.2.2.1 x.2.1 x.2.2.1) (fun c=>(fun t1 t4 t11 t12 k0 k1 b2 b3 b4=>c 4 Bl.q4 rfl (((),t1,t4,(),(),(),t11,t12,()),(k0,k1,(b2,()),(b3,()),(b4,()),())),fun t1 t4 t11 t12 t14 t16 k0 k1 b2 b3 b4 b5=>c 10 Bl.UA rfl (((),t1,t4,(),(),(),t11,t12,(),t14,t16,()),(k0,k1,(b2,()),(b3,()),(b4,()),(b5,()),())),fun t1 t16 k0 k1 b2 b3 b4 b5=>c 13 Bl.Xq rfl (((),t1,(),(),(),(),t16,()),(k0,k1,(b2,()),(b3,()),(b4,()),(b5,()),())),fun t1 t4 t11 t12 t16 k0 k1 b2 b3 b4 b5=>c 16 Bl.aX rfl (((),t1,t4,(),(),(),t11,t12,(),t16,()),(k0,k1,(b2,()),(b3,()),(b4,()),(b5,()),())),fun t1 t16 t24 k0 k1 b2 b3 b4 b5=>c 33 Bl.kX rfl (((),t1,(),(),(),(),t16,t24,()),(k0,k1,(b2,()),(b3,()),(b4,()),(b5,()),())),())) Bl.kS (by kernel_rfl)
end
end Go.Proofs.Tryz
