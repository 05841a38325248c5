/-
 Functions in plain words (what their equations say), and their contracts. Written by a program.
-/
import Derived.Test.YtpjlciengdhjoaaGreatDoorTwD
import Derived.Test.YtpjlciengdhjoaaGreatDoorMm
set_option maxRecDepth 100000
set_option maxHeartbeats 4000000
namespace Go.Proofs.Tryz
open Go Go.En
noncomputable section
def E8.k (n:Int) (k0:CT):Wa Dop.Fp Bool CT:=
 let A1:=PH (Dop.Fp.mk 0 0 0 []) false k0
 ci (n<0) A1<|
 ci (I k0.l.length<=n) A1<|
 ck (0<=n/\n<I k0.l.length)<|
 ck (n.toNat<k0.l.length)<|
 PH (List.getD k0.l n.toNat Dop.d6) true k0
def E8.Kc:=kd 93 E8.p fun x=>E8.k x.1.2.1 x.2.1
theorem E8.Kh:E8.Kc.Holds prog:=kh AJ hn E8.ok (by kernel_rfl)
def JV.k (x:Dop.Fp) (k0:CT):Wa Int Int CT:=
 (D6.k k0.l x).bind fun y1=>
 ci (0<=y1.1.1) (PH y1.1.1 0 k0)<|
 ci (I k0.l.length=256) (PH 0 4 k0)<|
 ck (Dc none (room 40 (k0.l.length+(x::[]).length)))<|
 ck (Al (I (k0.l++x::[]).length -1))<|
 PH (I (k0.l++x::[]).length -1) 0 (CT.pK k0 (k0.l++x::[]))
def JV.Kc:=kd 121 JV.p fun x=>JV.k x.1.2.1 x.2.1
theorem JV.Kh:JV.Kc.Holds prog:=kh AJ (hc D6.Kh hn) JV.ok (by kernel_rfl)
def JR.k (elem:Int) (k0:CT):Wa Int Int CT:=
 (E8.k elem k0).bind fun y2=>
 ci (!y2.1.2.1) (PH 0 1 y2.2.1)<|
 (JV.k (Dop.Fp.mk 4 elem 0 []) y2.2.1).bind nq
def JR.Kc:=kd 89 JR.p fun x=>JR.k x.1.2.1 x.2.1
theorem JR.Kh:JR.Kc.Holds prog:=kh AJ (hc E8.Kh (hc JV.Kh hn)) JR.ok (by kernel_rfl)
abbrev Bq.kr (r:GA.T) (t1:Int) (k0:CT):Wa Int Bool CT:=r.1 (((),t1,()),(k0,()))
abbrev L7.T:Type:=Int->List Dop.Wl->Int->Int->CT->Wa Int Bool CT
abbrev Bq.KT:Type:=L7.T×Unit
def L7.kB (rK:GA.T) (tK:Bq.KT):L7.T:=fun t10 t54 t55 t56 k0=>
 ci (t56<t55) (ck (0<=t56/\t56<I t54.length)<|
 (Bq.kr rK ((List.getD t54 t56.toNat Dop.d16).Cj) k0).bind fun y1=>
 ck (Al (t10+y1.1.1))<|
 ck (Al (t56+1))<|
 tK.1 (t10+y1.1.1) t54 t55 (t56+1) y1.2.1)<|
 PH t10 (decide (0<t10)) k0
def Bq.kS (rK:GA.T) (tK:Bq.KT):Bq.KT:=(L7.kB rK tK,())
def Bq.kL (rK:GA.T) (n:Nat):Bq.KT:=Bd (Bq.kS rK) n
def Bq.k0 (rK:GA.T) (tK:Bq.KT) (t1:Int) (k0:CT):Wa Int Bool CT:=
 (E8.k t1 k0).bind fun y2=>
 ci (!y2.1.2.1) (PH 0 false y2.2.1)<|
 ci (y2.1.1.kind=0) (PH 0 false y2.2.1)<|
 ci (y2.1.1.kind=5) ((Bq.kr rK y2.1.1.elem y2.2.1).bind fun y1=>
 ck (Al (y1.1.1*y2.1.1.n))<|
 PH (y1.1.1*y2.1.1.n) true y1.2.1)<|
 ci (y2.1.1.kind=6) (tK.1 0 ((AT (CT.fields y2.2.1) y2.1.1.name).getD []) (I ((AT (CT.fields y2.2.1) y2.1.1.name).getD []).length) 0 y2.2.1)<|
 PH 1 true y2.2.1
def Bq.kf (rK:GA.T) (t1:Int) (k0:CT):Wa Int Bool CT:=Bq.k0 rK (Bq.kL rK 1000000) t1 k0
def GA.kS (r:GA.T):GA.T:=(fun x=>Bq.kf r x.1.2.1 x.2.1,())
def GA.kR (n:Nat):GA.T:=Bd GA.kS n
def Bq.Kc (n:Nat):=kd 51 Bq.p (GA.kR n).1
def Bq.JE:=Bq.Kc FU
def Bq.k:=Bq.kr (GA.kR FU)
def GA.PY (n:Nat):List (BU Dop.D4):=[Bq.Kc n]
theorem GA.Dx: ∀ n,(Bq.Kc n).Holds prog/\True
 | 0=>⟨AR AJ Bq.ok,trivial⟩
 | n+1=>by
  obtain ⟨h0,_⟩:=GA.Dx n
  have hh: ∀ c∈GA.PY n,c.Holds prog:=(hc h0 hn)
  exact ⟨GB AJ (Ad hh (hc E8.Kh hn)) Bq.ok (fun t x=>Bq.k0 (GA.kR n) t x.1.2.1 x.2.1) (fun c=>(fun t10 t54 t55 t56 k0=>c 10 Bq.WK rfl (((),t10,t54,t55,t56,()),(k0,())),())) (Bq.kS (GA.kR n)) (by kernel_rfl),
   trivial⟩
theorem Bq.Hi:Bq.JE.Holds prog:=(GA.Dx FU).1
def Ky.k (elem n:Int) (k0:CT):Wa Int Int CT:=
 (E8.k elem k0).bind fun y3=>
 ci (!y3.1.2.1) (PH 0 1 y3.2.1)<|
 (Bq.k elem y3.2.1).bind fun y2=>
 ci (!y2.1.2.1) (PH 0 8 y2.2.1)<|
 ci (n<1) (PH 0 4 y2.2.1)<|
 ci (1024<n) (PH 0 4 y2.2.1)<|
 ck (Al (y2.1.1*n))<|
 ci (4096<y2.1.1*n) (PH 0 4 y2.2.1)<|
 (JV.k (Dop.Fp.mk 5 elem n []) y2.2.1).bind nq
def Ky.Kc:=kd 90 Ky.p fun x=>Ky.k x.1.2.1 x.1.2.2.1 x.2.1
theorem Ky.Kh:Ky.Kc.Holds prog:=kh AJ (hc E8.Kh (hc Bq.Hi (hc JV.Kh hn))) Ky.ok (by kernel_rfl)
def JS.k (name:List UInt8) (k0:CT):Wa Int Int CT:=
 ci (name=[]) (PH 0 1 k0)<|
 (JV.k (Dop.Fp.mk 6 0 0 name) k0).bind nq
def JS.Kc:=kd 91 JS.p fun x=>JS.k x.1.2.1 x.2.1
theorem JS.Kh:JS.Kc.Holds prog:=kh AJ (hc JV.Kh hn) JS.ok (by kernel_rfl)
def D5.k (n:Int) (k0:CT):R1 Bool CT:=
 (E8.k n k0).bind fun y1=>
 ci (1<=y1.1.1.kind) (B7 (decide (y1.1.1.kind<=4)) y1.2.1)<|
 B7 false y1.2.1
def D5.Kc:=kd 55 D5.p fun x=>D5.k x.1.2.1 x.2.1
theorem D5.Kh:D5.Kc.Holds prog:=kh AJ (hc E8.Kh hn) D5.ok (by kernel_rfl)
def H7.KE:Env Dop.D4:=AU prog 189 tb [E8.Kc,Bq.JE] H7.p
def H7.k (n:Int) (name:List UInt8) (k0:CT):pc Int Int Bool CT:=H7.KE.Ei 3000 1000000 H7.p.sp (((),n,name,()),(k0,()))
def H7.Kc:=kd 189 H7.p fun x=>H7.k x.1.2.1 x.1.2.2.1 x.2.1
theorem H7.Kh:H7.Kc.Holds prog:=kh AJ (hc E8.Kh (hc Bq.Hi hn)) H7.ok (by kernel_rfl)
def MY.k (n:Int) (k0:CK) (k1:CT):R2 Dop.AV CK CT:=
 let A1:=Ar (Dop.AV.mk 0 (-1) (-1) (-1) (-1) [] 0 0 0) k0 k1
 ci (n<0) A1<|
 ci (I k0.t.nodes.length<=n) A1<|
 ck (0<=n/\n<I k0.t.nodes.length)<|
 Ar (List.getD k0.t.nodes n.toNat Dop.d5) k0 k1
def MY.Kc:=kd 32 MY.p fun x=>MY.k x.1.2.1 x.2.1 x.2.2.1
theorem MY.Kh:MY.Kc.Holds prog:=kh AJ hn MY.ok (by kernel_rfl)
def BB.k (e n:Int) (k0:CK) (k1:CT):R2 Dop.BM CK CT:=
 let A1:=Dop.BM.mk (-1) 1 0 0 false
 ci (k0.e=0) ((MY.k n k0 k1).bind fun y1=>
 Ar A1 (CK.Fi (CK.Wi y1.2.1 e) y1.1.1.at_) y1.2.2.1)<|
 Ar A1 k0 k1
def BB.Kc:=kd 50 BB.p fun x=>BB.k x.1.2.1 x.1.2.2.1 x.2.1 x.2.2.1
theorem BB.Kh:BB.Kc.Holds prog:=kh AJ (hc MY.Kh hn) BB.ok (by kernel_rfl)
def Dg.k (t:Int) (k0:CK) (k1:CT):R2 Int CK CT:=
 (E8.k t k1).bind fun y1=>
 Ar y1.1.1.kind k0 y1.2.1
def Dg.Kc:=kd 54 Dg.p fun x=>Dg.k x.1.2.1 x.2.1 x.2.2.1
theorem Dg.Kh:Dg.Kc.Holds prog:=kh AJ (hc E8.Kh hn) Dg.ok (by kernel_rfl)
def Fa.k (t:Int) (k0:CK) (k1:CT):R2 Bool CK CT:=
 (Dg.k t k0 k1).bind fun y1=>
 ci (y1.1.1=1) (Ar true y1.2.1 y1.2.2.1)<|
 ci (y1.1.1=2) (Ar true y1.2.1 y1.2.2.1)<|
 Ar (decide (y1.1.1=3)) y1.2.1 y1.2.2.1
def Fa.Kc:=kd 52 Fa.p fun x=>Fa.k x.1.2.1 x.2.1 x.2.2.1
theorem Fa.Kh:Fa.Kc.Holds prog:=kh AJ (hc Dg.Kh hn) Fa.ok (by kernel_rfl)
def GC.k (t:Int) (k0:CK) (k1:CT):mX Int Int CK CT:=
 (E8.k t k1).bind fun y2=>
 (Bq.k y2.1.1.elem y2.2.1).bind fun y1=>
 ci (!y1.1.2.1) (mo y2.1.1.elem 1 k0 y1.2.1)<|
 mo y2.1.1.elem y1.1.1 k0 y1.2.1
def GC.Kc:=kd 157 GC.p fun x=>GC.k x.1.2.1 x.2.1 x.2.2.1
theorem GC.Kh:GC.Kc.Holds prog:=kh AJ (hc E8.Kh (hc Bq.Hi hn)) GC.ok (by kernel_rfl)
def KJ.k (t:Int) (k0:CK) (k1:CT):R2 Bool CK CT:=
 (Dg.k t k0 k1).bind fun y1=>
 ci (y1.1.1=2) (Ar true y1.2.1 y1.2.2.1)<|
 Ar (decide (y1.1.1=4)) y1.2.1 y1.2.2.1
def KJ.Kc:=kd 183 KJ.p fun x=>KJ.k x.1.2.1 x.2.1 x.2.2.1
theorem KJ.Kh:KJ.Kc.Holds prog:=kh AJ (hc Dg.Kh hn) KJ.ok (by kernel_rfl)
def Iw.k (a b:Int) (k0:CK) (k1:CT):R2 Int CK CT:=
 (Dg.k a k0 k1).bind fun y2=>
 ci (y2.1.1=2) (Ar 2 y2.2.1 y2.2.2.1)<|
 (Dg.k b y2.2.1 y2.2.2.1).bind fun y1=>
 ci (y1.1.1=2) (Ar 2 y1.2.1 y1.2.2.1)<|
 Ar 1 y1.2.1 y1.2.2.1
def Iw.Kc:=kd 181 Iw.p fun x=>Iw.k x.1.2.1 x.1.2.2.1 x.2.1 x.2.2.1
theorem Iw.Kh:Iw.Kc.Holds prog:=kh AJ (hc Dg.Kh hn) Iw.ok (by kernel_rfl)
def BX.k (kind a b d n:Int) (text:List UInt8) (k0:CK) (k1:CT):R2 Int CK CT:=
 ck (Dc none (room 80 (k0.nodes.length+(Dop.AV.mk kind a b d (-1) text n 0 0::[]).length)))<|
 ck (Al (I (k0.nodes++Dop.AV.mk kind a b d (-1) text n 0 0::[]).length -1))<|
 Ar (I (k0.nodes++Dop.AV.mk kind a b d (-1) text n 0 0::[]).length -1) (CK.Eo k0 (k0.nodes++Dop.AV.mk kind a b d (-1) text n 0 0::[])) k1
def BX.Kc:=kd 59 BX.p fun x=>BX.k x.1.2.1 x.1.2.2.1 x.1.2.2.2.1 x.1.2.2.2.2.1 x.1.2.2.2.2.2.1 x.1.2.2.2.2.2.2.1 x.2.1 x.2.2.1
theorem BX.Kh:BX.Kc.Holds prog:=kh AJ hn BX.ok (by kernel_rfl)
def Dz.k (n:Int):C9 Int:=
 let A1:=IntKind.i32.wrap (IntKind.u32.wrap n)
 ck (Al A1)<|
 Aw A1
def Dz.Kc:=kd 53 Dz.p fun x=>Dz.k x.1.1
theorem Dz.Kh:Dz.Kc.Holds prog:=kh AJ hn Dz.ok (by kernel_rfl)
def E9.k (n:Int) (k0:CK) (k1:CT):R2 Int CK CT:=
 (Dz.k n).bind fun y2=>
 (BX.k 1 ((-1)) ((-1)) ((-1)) y2.1.1 [] k0 k1).bind C8
def E9.Kc:=kd 95 E9.p fun x=>E9.k x.1.2.1 x.2.1 x.2.2.1
theorem E9.Kh:E9.Kc.Holds prog:=kh AJ (hc Dz.Kh (hc BX.Kh hn)) E9.ok (by kernel_rfl)
def Fm.k (n:Int) (k0:CK) (k1:CT):R2 Int CK CT:=
 (BX.k 2 ((-1)) ((-1)) ((-1)) n [] k0 k1).bind C8
def Fm.Kc:=kd 61 Fm.p fun x=>Fm.k x.1.2.1 x.2.1 x.2.2.1
theorem Fm.Kh:Fm.Kc.Holds prog:=kh AJ (hc BX.Kh hn) Fm.ok (by kernel_rfl)
def JT.k (n:Int) (k0:CK) (k1:CT):R2 Int CK CT:=
 let A1:=k0.f.A7+(1:Int) -1
 ci (k0.f.A7=4096) ((BB.k 4 n k0 k1).bind fun y1=>
 Ar 0 y1.2.1 y1.2.2.1)<|
 ck (Al (k0.f.A7+1))<|
 ck (Al A1)<|
 Ar A1 (CK.gg k0 (Dop.Ey.mk k0.f.name k0.f.params (k0.f.A7+1) k0.f.frame k0.f.body)) k1
def JT.Kc:=kd 94 JT.p fun x=>JT.k x.1.2.1 x.2.1 x.2.2.1
theorem JT.Kh:JT.Kc.Holds prog:=kh AJ (hc BB.Kh hn) JT.ok (by kernel_rfl)
def K1.k (t:Int) (k0:CK) (k1:CT):R2 Int CK CT:=
 (JR.k t k1).bind fun y1=>
 Ar y1.1.1 k0 y1.2.1
def K1.Kc:=kd 179 K1.p fun x=>K1.k x.1.2.1 x.2.1 x.2.2.1
theorem K1.Kh:K1.Kc.Holds prog:=kh AJ (hc JR.Kh hn) K1.ok (by kernel_rfl)
def K2.k (a:Int) (k0:CK) (k1:CT):R2 Int CK CT:=
 (BX.k 4 a ((-1)) ((-1)) 0 [] k0 k1).bind C8
def K2.Kc:=kd 180 K2.p fun x=>K2.k x.1.2.1 x.2.1 x.2.2.1
theorem K2.Kh:K2.Kc.Holds prog:=kh AJ (hc BX.Kh hn) K2.ok (by kernel_rfl)
def JX.k (a t:Int) (k0:CK) (k1:CT):R2 Dop.BM CK CT:=
 (Dg.k t k0 k1).bind fun y3=>
 ci (y3.1.1=5) ((GC.k t y3.2.1 y3.2.2.1).bind fun y2=>
 (K1.k y2.1.1 y2.2.1 y2.2.2.1).bind fun y1=>
 Ar (Dop.BM.mk a y1.1.1 0 0 false) y1.2.1 y1.2.2.1)<|
 ci (y3.1.1=6) (Ar (Dop.BM.mk a t 2 a false) y3.2.1 y3.2.2.1)<|
 (K2.k a y3.2.1 y3.2.2.1).bind fun y1=>
 Ar (Dop.BM.mk y1.1.1 t 2 a false) y1.2.1 y1.2.2.1
def JX.Kc:=kd 146 JX.p fun x=>JX.k x.1.2.1 x.1.2.2.1 x.2.1 x.2.2.1
theorem JX.Kh:JX.Kc.Holds prog:=kh AJ (hc Dg.Kh (hc GC.Kh (hc K1.Kh (hc K2.Kh hn)))) JX.ok (by kernel_rfl)
def HC.k (p:Dop.EB) (k0:CK) (k1:CT):R2 Int CK CT:=
 ci (p.kind=3) ((BX.k 3 ((-1)) ((-1)) ((-1)) p.n [] k0 k1).bind C8)<|
 (E9.k p.n k0 k1).bind C8
def HC.Kc:=kd 60 HC.p fun x=>HC.k x.1.2.1 x.2.1 x.2.2.1
theorem HC.Kh:HC.Kc.Holds prog:=kh AJ (hc BX.Kh (hc E9.Kh hn)) HC.ok (by kernel_rfl)
def K0.k (op a:Int) (k0:CK) (k1:CT):R2 Int CK CT:=
 (BX.k 7 a ((-1)) ((-1)) op [] k0 k1).bind C8
def K0.Kc:=kd 158 K0.p fun x=>K0.k x.1.2.1 x.1.2.2.1 x.2.1 x.2.2.1
theorem K0.Kh:K0.Kc.Holds prog:=kh AJ (hc BX.Kh hn) K0.ok (by kernel_rfl)
def H5.k (r a:Int) (k0:CK) (k1:CT):R2 Int CK CT:=
 (BX.k 6 a ((-1)) ((-1)) r [] k0 k1).bind C8
def H5.Kc:=kd 159 H5.p fun x=>H5.k x.1.2.1 x.1.2.2.1 x.2.1 x.2.2.1
theorem H5.Kh:H5.Kc.Holds prog:=kh AJ (hc BX.Kh hn) H5.ok (by kernel_rfl)
def Cr.k (kind a b d e n:Int) (text:List UInt8) (k0:CK) (k1:CT):R2 Int CK CT:=
 ck (Dc none (room 80 (k0.nodes.length+(Dop.AV.mk kind a b d e text n 0 0::[]).length)))<|
 ck (Al (I (k0.nodes++Dop.AV.mk kind a b d e text n 0 0::[]).length -1))<|
 Ar (I (k0.nodes++Dop.AV.mk kind a b d e text n 0 0::[]).length -1) (CK.Eo k0 (k0.nodes++Dop.AV.mk kind a b d e text n 0 0::[])) k1
def Cr.Kc:=kd 58 Cr.p fun x=>Cr.k x.1.2.1 x.1.2.2.1 x.1.2.2.2.1 x.1.2.2.2.2.1 x.1.2.2.2.2.2.1 x.1.2.2.2.2.2.2.1 x.1.2.2.2.2.2.2.2.1 x.2.1 x.2.2.1
theorem Cr.Kh:Cr.Kc.Holds prog:=kh AJ hn Cr.ok (by kernel_rfl)
abbrev QL.T:Type:=Int->Int->Bool->Int->Int->Bool->CK->CT->Dop.BM->R2 Int CK CT
abbrev ML.T:Type:=Int->Int->Int->Bool->CK->CT->Dop.BM->R2 Int CK CT
abbrev CS.KT:Type:=QL.T×ML.T×Unit
def QL.kB (tK:CS.KT):QL.T:=fun t2 t3 t4 t11 t12 t13 k0 k1 b2=>
 ci (t12=4) ((Fa.k b2.EA k0 k1).bind fun y3=>
 let z1:R2 Int CK CT:=
 (D5.k b2.EA y3.2.2.1).bind fun y2=>
 ci y2.1.1 ((D5.k t2 y2.2.1).bind fun y1=>
 tK.2.1 t3 t11 t12 y1.1.1 y3.2.1 y1.2.1 b2)<|
 tK.2.1 t3 t11 t12 false y3.2.1 y2.2.1 b2
 ci y3.1.1 (ci t4 (z1)<|
 tK.2.1 t3 t11 t12 b2.zero y3.2.1 y3.2.2.1 b2)<|
 ci t4 (z1)<|
 tK.2.1 t3 t11 t12 t13 y3.2.1 y3.2.2.1 b2)<|
 ci t4 ((D5.k b2.EA k1).bind fun y2=>
 ci y2.1.1 ((D5.k t2 y2.2.1).bind fun y1=>
 tK.2.1 t3 t11 t12 y1.1.1 k0 y1.2.1 b2)<|
 tK.2.1 t3 t11 t12 false k0 y2.2.1 b2)<|
 tK.2.1 t3 t11 t12 t13 k0 k1 b2
def ML.kB (tK:CS.KT):ML.T:=fun t3 t11 t12 t13 k0 k1 b2=>
 ci (!t13) ((BB.k 8 t3 k0 k1).bind fun y1=>
 Ar y1.1.1.n y1.2.1 y1.2.2.1)<|
 ci (t12=3) (ci (!(t11=3)) ((K0.k 22 b2.n k0 k1).bind C8)<|
 Ar b2.n k0 k1)<|
 Ar b2.n k0 k1
def CS.kS (tK:CS.KT):CS.KT:=(QL.kB tK,ML.kB tK,())
def CS.kL (n:Nat):CS.KT:=Bd CS.kS n
def CS.k0 (tK:CS.KT) (t1:Dop.BM) (t2 t3:Int) (t4:Bool) (k0:CK) (k1:CT):R2 Int CK CT:=
 (Dg.k t1.EA k0 k1).bind fun y6=>
 (Dg.k t2 y6.2.1 y6.2.2.1).bind fun y5=>
 (Fa.k t1.EA y5.2.1 y5.2.2.1).bind fun y4=>
 ci y4.1.1 ((Fa.k t2 y4.2.1 y4.2.2.1).bind fun y3=>
 ci (y6.1.1=4) (ci (y5.1.1=4) ((GC.k t1.EA y3.2.1 y3.2.2.1).bind fun y2=>
 (GC.k t2 y2.2.1 y2.2.2.1).bind fun y1=>
 ci (t1.EA=t2) (tK.1 t2 t3 t4 y6.1.1 y5.1.1 true y1.2.1 y1.2.2.1 t1)<|
 ci (y2.1.1=0) (tK.1 t2 t3 t4 y6.1.1 y5.1.1 true y1.2.1 y1.2.2.1 t1)<|
 tK.1 t2 t3 t4 y6.1.1 y5.1.1 (decide (y1.1.1=0)) y1.2.1 y1.2.2.1 t1)<|
 tK.1 t2 t3 t4 y6.1.1 y5.1.1 y3.1.1 y3.2.1 y3.2.2.1 t1)<|
 tK.1 t2 t3 t4 y6.1.1 y5.1.1 y3.1.1 y3.2.1 y3.2.2.1 t1)<|
 ci (y6.1.1=4) (ci (y5.1.1=4) ((GC.k t1.EA y4.2.1 y4.2.2.1).bind fun y2=>
 (GC.k t2 y2.2.1 y2.2.2.1).bind fun y1=>
 ci (t1.EA=t2) (tK.1 t2 t3 t4 y6.1.1 y5.1.1 true y1.2.1 y1.2.2.1 t1)<|
 ci (y2.1.1=0) (tK.1 t2 t3 t4 y6.1.1 y5.1.1 true y1.2.1 y1.2.2.1 t1)<|
 tK.1 t2 t3 t4 y6.1.1 y5.1.1 (decide (y1.1.1=0)) y1.2.1 y1.2.2.1 t1)<|
 tK.1 t2 t3 t4 y6.1.1 y5.1.1 false y4.2.1 y4.2.2.1 t1)<|
 tK.1 t2 t3 t4 y6.1.1 y5.1.1 false y4.2.1 y4.2.2.1 t1
def CS.k (t1:Dop.BM) (t2 t3:Int) (t4:Bool) (k0:CK) (k1:CT):R2 Int CK CT:=CS.k0 (CS.kL 1000000) t1 t2 t3 t4 k0 k1
def CS.Kc:=kd 123 CS.p fun x=>CS.k x.1.2.1 x.1.2.2.1 x.1.2.2.2.1 x.1.2.2.2.2.1 x.2.1 x.2.2.1
theorem CS.Kh:CS.Kc.Holds prog:=GB AJ (hc Dg.Kh (hc Fa.Kh (hc GC.Kh (hc D5.Kh (hc BB.Kh (hc K0.Kh hn)))))) CS.ok (fun t x=>CS.k0 t x.1.2.1 x.1.2.2.1 x.1.2.2.2.1 x.1.2.2.2.2.1 x.2.1 x.2.2.1) (fun c=>(fun t2 t3 t4 t11 t12 t13 k0 k1 b2=>c 7 CS.q7 rfl (((),t2,t3,t4,(),t11,t12,t13,()),(k0,k1,(b2,()),())),fun t3 t11 t12 t13 k0 k1 b2=>c 11 CS.gA rfl (((),t3,(),t11,t12,t13,()),(k0,k1,(b2,()),())),())) CS.kS (by kernel_rfl)
def FI.k (op a b:Int) (k0:CK) (k1:CT):R2 Int CK CT:=
 (BX.k 8 a b ((-1)) op [] k0 k1).bind C8
def FI.Kc:=kd 184 FI.p fun x=>FI.k x.1.2.1 x.1.2.2.1 x.1.2.2.2.1 x.2.1 x.2.2.1
theorem FI.Kh:FI.Kc.Holds prog:=kh AJ (hc BX.Kh hn) FI.ok (by kernel_rfl)
def Lu.k (n size:Int) (k0:CK) (k1:CT):R2 Int CK CT:=
 ci (size=1) (Ar n k0 k1)<|
 (E9.k size k0 k1).bind fun y2=>
 (FI.k 3 n y2.1.1 y2.2.1 y2.2.2.1).bind C8
def Lu.Kc:=kd 185 Lu.p fun x=>Lu.k x.1.2.1 x.1.2.2.1 x.2.1 x.2.2.1
theorem Lu.Kh:Lu.Kc.Holds prog:=kh AJ (hc E9.Kh (hc FI.Kh hn)) Lu.ok (by kernel_rfl)
abbrev QG.T:Type:=Int->Int->Int->CK->CT->R2 Int CK CT
abbrev L5.T:Type:=Int->Int->Int->Int->Int->CK->CT->R2 Int CK CT
abbrev DM.KT:Type:=QG.T×L5.T×Unit
def QG.kB (tK:DM.KT):QG.T:=fun t1 t2 t7 k0 k1=>
 let A1:=List.getD k0.t.types t7.toNat Dop.d6
 let A2:=List.getD k0.num A1.elem.toNat 0
 let z1:R2 Int CK CT:=
 ck (0<=t1/\t1<I k0.num.length)<|
 ck (t1.toNat<k0.num.length)<|
 Ar (List.getD k0.num t1.toNat 0) k0 k1
 ci (t7<=t1) (ci (t7<I k0.t.types.length) (ck (0<=t7/\t7<I k0.t.types.length)<|
 ci (A1.kind=4) (ck (0<=A1.elem/\A1.elem<I k0.num.length)<|
 ck (A1.elem.toNat<k0.num.length)<|
 (JR.k A2 k1).bind fun y1=>
 tK.2.1 t1 t2 t7 y1.1.1 y1.1.2.1 k0 y1.2.1)<|
 ci (A1.kind=5) (ck (0<=A1.elem/\A1.elem<I k0.num.length)<|
 ck (A1.elem.toNat<k0.num.length)<|
 (Ky.k A2 (A1.n) k1).bind fun y1=>
 tK.2.1 t1 t2 t7 y1.1.1 y1.1.2.1 k0 y1.2.1)<|
 ci (A1.kind=6) ((JS.k (A1.name) k1).bind fun y1=>
 tK.2.1 t1 t2 t7 y1.1.1 y1.1.2.1 k0 y1.2.1)<|
 tK.2.1 t1 t2 t7 t7 0 k0 k1)<|
 z1)<|
 z1
def L5.kB (tK:DM.KT):L5.T:=fun t1 t2 t7 t9 t10 k0 k1=>
 ci (!(t10=0)) ((BB.k t10 t2 k0 k1).bind fun y1=>
 Ar 1 y1.2.1 y1.2.2.1)<|
 ck (Dc none (room 8 (k0.num.length+(t9::[]).length)))<|
 ck (Al (t7+1))<|
 tK.1 t1 t2 (t7+1) ((CK.OF k0 (k0.num++t9::[]))) k1
def DM.kS (tK:DM.KT):DM.KT:=(QG.kB tK,L5.kB tK,())
def DM.kL (n:Nat):DM.KT:=Bd DM.kS n
def DM.k0 (tK:DM.KT) (t1 t2:Int) (k0:CK) (k1:CT):R2 Int CK CT:=
 tK.1 t1 t2 (I k0.num.length) k0 k1
def DM.k (t1 t2:Int) (k0:CK) (k1:CT):R2 Int CK CT:=DM.k0 (DM.kL 1000000) t1 t2 k0 k1
def DM.Kc:=kd 48 DM.p fun x=>DM.k x.1.2.1 x.1.2.2.1 x.2.1 x.2.2.1
theorem DM.Kh:DM.Kc.Holds prog:=GB AJ (hc JR.Kh (hc Ky.Kh (hc JS.Kh (hc BB.Kh hn)))) DM.ok (fun t x=>DM.k0 t x.1.2.1 x.1.2.2.1 x.2.1 x.2.2.1) (fun c=>(fun t1 t2 t7 k0 k1=>c 2 DM.q2 rfl (((),t1,t2,t7,()),(k0,k1,())),fun t1 t2 t7 t9 t10 k0 k1=>c 13 DM.aB rfl (((),t1,t2,t7,t9,t10,()),(k0,k1,())),())) DM.kS (by kernel_rfl)
def JY.k (v:Dop.BM) (at_:Int) (k0:CK) (k1:CT):R2 Dop.BM CK CT:=
 ci (!(k0.e=0)) ((BB.k 8 at_ k0 k1).bind C8)<|
 (Dg.k v.EA k0 k1).bind fun y4=>
 ci (!(y4.1.1=4)) ((BB.k 8 at_ y4.2.1 y4.2.2.1).bind C8)<|
 (GC.k v.EA y4.2.1 y4.2.2.1).bind fun y3=>
 (Bq.k y3.1.1 y3.2.2.1).bind fun y2=>
 ci (!y2.1.2.1) ((BB.k 8 at_ y3.2.1 y2.2.1).bind C8)<|
 (JX.k v.n y3.1.1 y3.2.1 y2.2.1).bind C8
def JY.Kc:=kd 154 JY.p fun x=>JY.k x.1.2.1 x.1.2.2.1 x.2.1 x.2.2.1
theorem JY.Kh:JY.Kc.Holds prog:=kh AJ (hc Dg.Kh (hc BB.Kh (hc GC.Kh (hc Bq.Hi (hc JX.Kh hn))))) JY.ok (by kernel_rfl)
def H4.KE:Env Dop.D4:=AU prog 153 tb [Fa.Kc,Iw.Kc,Dg.Kc,BB.Kc,BX.Kc] H4.p
def H4.k (t1 t2 t3:Dop.BM) (t4:Int) (k0:CK) (k1:CT):R2 Dop.BM CK CT:=H4.KE.Ei 3000 1000000 H4.p.sp (((),t1,t2,t3,t4,()),(k0,k1,()))
def H4.Kc:=kd 153 H4.p fun x=>H4.k x.1.2.1 x.1.2.2.1 x.1.2.2.2.1 x.1.2.2.2.2.1 x.2.1 x.2.2.1
theorem H4.Kh:H4.Kc.Holds prog:=kh AJ (hc Fa.Kh (hc Iw.Kh (hc Dg.Kh (hc BB.Kh (hc BX.Kh hn))))) H4.ok (by kernel_rfl)
def K4.k (ahead n:Int) (k0:CK) (k1:CT):R2 Int CK CT:=
 ci (ahead<0) (Ar n k0 k1)<|
 (BX.k 15 ahead n ((-1)) 0 [] k0 k1).bind C8
def K4.Kc:=kd 187 K4.p fun x=>K4.k x.1.2.1 x.1.2.2.1 x.2.1 x.2.2.1
theorem K4.Kh:K4.Kc.Holds prog:=kh AJ (hc BX.Kh hn) K4.ok (by kernel_rfl)
def Hb.k (l:Dop.BM) (n:Int) (k0:CK) (k1:CT):R2 Int CK CT:=
 ci (l.left=1) ((H5.k l.at_ n k0 k1).bind C8)<|
 (BX.k 5 l.at_ n ((-1)) 0 [] k0 k1).bind C8
def Hb.Kc:=kd 124 Hb.p fun x=>Hb.k x.1.2.1 x.1.2.2.1 x.2.1 x.2.2.1
theorem Hb.Kh:Hb.Kc.Holds prog:=kh AJ (hc H5.Kh (hc BX.Kh hn)) Hb.ok (by kernel_rfl)
def Ng.k :C9 (List (List UInt8×Dop.Lx)):=
 Aw (Bc (Bc (Bc (Bc (Bc (Bc (Bc (Bc (Bc (Bc (Bc (Bc (Bc (Bc (Bc (Bc (([]:List (List UInt8×Dop.Lx))) ([43]:List UInt8) (Dop.Lx.mk 1 1)) ([45]:List UInt8) (Dop.Lx.mk 2 2)) ([42]:List UInt8) (Dop.Lx.mk 3 3)) ([47]:List UInt8) (Dop.Lx.mk 4 6)) ([37]:List UInt8) (Dop.Lx.mk 5 7)) ([38]:List UInt8) (Dop.Lx.mk 8 8)) ([124]:List UInt8) (Dop.Lx.mk 9 9)) ([94]:List UInt8) (Dop.Lx.mk 10 10)) ([60,60]:List UInt8) (Dop.Lx.mk 11 11)) ([62,62]:List UInt8) (Dop.Lx.mk 12 13)) ([61,61]:List UInt8) (Dop.Lx.mk 14 14)) ([33,61]:List UInt8) (Dop.Lx.mk 15 15)) ([60]:List UInt8) (Dop.Lx.mk 16 18)) ([60,61]:List UInt8) (Dop.Lx.mk 17 19)) ([62]:List UInt8) (Dop.Lx.mk 16 18)) ([62,61]:List UInt8) (Dop.Lx.mk 17 19))
def Ng.Kc:=kd 182 Ng.p fun x=>Ng.k
theorem Ng.Kh:Ng.Kc.Holds prog:=kh AJ hn Ng.ok (by kernel_rfl)
def K3.k (l:Dop.BM) (at_:Int) (k0:CK) (k1:CT):mX Int Dop.BM CK CT:=
 ci (!(l.left=2)) (mo (-1) l k0 k1)<|
 (JT.k at_ k0 k1).bind fun y5=>
 (H5.k y5.1.1 l.at_ y5.2.1 y5.2.2.1).bind fun y4=>
 (Fm.k y5.1.1 y4.2.1 y4.2.2.1).bind fun y3=>
 (Fm.k y5.1.1 y3.2.1 y3.2.2.1).bind fun y2=>
 (K2.k y2.1.1 y2.2.1 y2.2.2.1).bind fun y1=>
 mo y4.1.1 (Dop.BM.mk y1.1.1 l.EA 2 y3.1.1 false) y1.2.1 y1.2.2.1
def K3.Kc:=kd 186 K3.p fun x=>K3.k x.1.2.1 x.1.2.2.1 x.2.1 x.2.2.1
theorem K3.Kh:K3.Kc.Holds prog:=kh AJ (hc JT.Kh (hc H5.Kh (hc Fm.Kh (hc K2.Kh hn)))) K3.ok (by kernel_rfl)
abbrev QM.T:Type:=List UInt8->Int->Bool->Bool->CK->CT->Dop.BM->Dop.BM->Dop.BM->R2 Dop.BM CK CT
abbrev MM.T:Type:=List UInt8->Int->Bool->Bool->Bool->Int->CK->CT->Dop.BM->Dop.BM->Dop.BM->Dop.Lx->R2 Dop.BM CK CT
abbrev MN.T:Type:=List UInt8->Int->CK->CT->Dop.BM->Dop.BM->Dop.BM->Dop.Lx->R2 Dop.BM CK CT
abbrev MO.T:Type:=List UInt8->Int->Bool->Bool->Int->CK->CT->Dop.BM->Dop.BM->Dop.BM->Dop.Lx->R2 Dop.BM CK CT
abbrev MP.T:Type:=List UInt8->Int->Int->CK->CT->Dop.BM->Dop.BM->Dop.BM->Dop.Lx->R2 Dop.BM CK CT
abbrev Bt.KT:Type:=QM.T×MM.T×MN.T×MO.T×MP.T×Unit
def QM.kB (tK:Bt.KT):QM.T:=fun t1 t4 t11 t12 k0 k1 b2 b3 b4=>
 (Ng.k).bind fun y4=>
 ck (([32]:List UInt8).length+t1.length<=9223372036854775807)<|
 ck (((32:UInt8)::[]++t1).length+([32]:List UInt8).length<=9223372036854775807)<|
 ck (V9 ([32,61,61,32,33,61,32,60,32,60,61,32,62,32,62,61,32]:List UInt8))<|
 (KJ.k b2.EA k0 k1).bind fun y3=>
 ci y3.1.1 (ci (!(t1=(62:UInt8)::(62:UInt8)::[])) (tK.2.1 t1 t4 t11 t12 (Lib.contains ([32,61,61,32,33,61,32,60,32,60,61,32,62,32,62,61,32]:List UInt8) ((32:UInt8)::[]++t1++(32:UInt8)::[])) 1 y3.2.1 y3.2.2.1 b2 b3 b4 ((AT y4.1.1 t1).getD Dop.d14))<|
 (KJ.k b2.EA y3.2.1 y3.2.2.1).bind fun y1=>
 ci y1.1.1 (tK.2.1 t1 t4 t11 t12 (Lib.contains ([32,61,61,32,33,61,32,60,32,60,61,32,62,32,62,61,32]:List UInt8) ((32:UInt8)::[]++t1++(32:UInt8)::[])) 1 y1.2.1 y1.2.2.1 b2 b3 b4 ((AT y4.1.1 t1).getD Dop.d14))<|
 tK.2.1 t1 t4 t11 t12 (Lib.contains ([32,61,61,32,33,61,32,60,32,60,61,32,62,32,62,61,32]:List UInt8) ((32:UInt8)::[]++t1++(32:UInt8)::[])) 0 y1.2.1 y1.2.2.1 b2 b3 b4 ((AT y4.1.1 t1).getD Dop.d14))<|
 (KJ.k b3.EA y3.2.1 y3.2.2.1).bind fun y2=>
 ci y2.1.1 (ci (!(t1=(62:UInt8)::(62:UInt8)::[])) (tK.2.1 t1 t4 t11 t12 (Lib.contains ([32,61,61,32,33,61,32,60,32,60,61,32,62,32,62,61,32]:List UInt8) ((32:UInt8)::[]++t1++(32:UInt8)::[])) 1 y2.2.1 y2.2.2.1 b2 b3 b4 ((AT y4.1.1 t1).getD Dop.d14))<|
 (KJ.k b2.EA y2.2.1 y2.2.2.1).bind fun y1=>
 ci y1.1.1 (tK.2.1 t1 t4 t11 t12 (Lib.contains ([32,61,61,32,33,61,32,60,32,60,61,32,62,32,62,61,32]:List UInt8) ((32:UInt8)::[]++t1++(32:UInt8)::[])) 1 y1.2.1 y1.2.2.1 b2 b3 b4 ((AT y4.1.1 t1).getD Dop.d14))<|
 tK.2.1 t1 t4 t11 t12 (Lib.contains ([32,61,61,32,33,61,32,60,32,60,61,32,62,32,62,61,32]:List UInt8) ((32:UInt8)::[]++t1++(32:UInt8)::[])) 0 y1.2.1 y1.2.2.1 b2 b3 b4 ((AT y4.1.1 t1).getD Dop.d14))<|
 tK.2.1 t1 t4 t11 t12 (Lib.contains ([32,61,61,32,33,61,32,60,32,60,61,32,62,32,62,61,32]:List UInt8) ((32:UInt8)::[]++t1++(32:UInt8)::[])) 0 y2.2.1 y2.2.2.1 b2 b3 b4 ((AT y4.1.1 t1).getD Dop.d14)
def MM.kB (tK:Bt.KT):MM.T:=fun t1 t4 t11 t12 t14 t16 k0 k1 b2 b3 b4 b5=>
 let A1:=(BB.k 8 t4 k0 k1).bind C8
 let z1:R2 Dop.BM CK CT:=
 ci t12 (ci (!b2.zero) A1<|
 ci t11 (ci t12 (ci (!(b2.EA=b3.EA)) A1<|
 tK.2.2.1 t1 t16 k0 k1 b2 b3 b4 b5)<|
 tK.2.2.1 t1 t16 k0 k1 b2 b3 b4 b5)<|
 tK.2.2.1 t1 t16 k0 k1 b2 b3 b4 b5)<|
 (BB.k 8 t4 k0 k1).bind C8
 let z2:R2 Dop.BM CK CT:=
 ci t11 (ci t12 (ci (!(b2.EA=b3.EA)) A1<|
 tK.2.2.1 t1 t16 k0 k1 b2 b3 b4 b5)<|
 tK.2.2.1 t1 t16 k0 k1 b2 b3 b4 b5)<|
 tK.2.2.1 t1 t16 k0 k1 b2 b3 b4 b5
 ci t14 (ci (!t11 == t12) (ci t11 (ci (!b3.zero) (z1)<|
 z2)<|
 z1)<|
 z2)<|
 tK.2.2.2.1 t1 t4 t11 t12 t16 k0 k1 b2 b3 b4 b5
def MN.kB (tK:Bt.KT):MN.T:=fun t1 t16 k0 k1 b2 b3 b4 b5=>
 let z1:R2 Dop.BM CK CT:=
 ck (0<=t16/\t16<I 2)<|
 ck (t16.toNat<(b5.x0::b5.x1::[]).length)<|
 (FI.k ((b5.x0::b5.x1::[]).getD t16.toNat 0) b3.n b2.n k0 k1).bind fun y1=>
 Ar (Dop.BM.mk y1.1.1 1 0 0 false) y1.2.1 y1.2.2.1
 ci (t1=(62:UInt8)::[]) (z1)<|
 ci (t1=(62:UInt8)::(61:UInt8)::[]) (z1)<|
 ck (0<=t16/\t16<I 2)<|
 ck (t16.toNat<(b5.x0::b5.x1::[]).length)<|
 (FI.k ((b5.x0::b5.x1::[]).getD t16.toNat 0) b2.n b3.n k0 k1).bind fun y1=>
 Ar (Dop.BM.mk y1.1.1 1 0 0 false) y1.2.1 y1.2.2.1
def MO.kB (tK:Bt.KT):MO.T:=fun t1 t4 t11 t12 t16 k0 k1 b2 b3 b4 b5=>
 let A2:=GC.k b2.EA k0 k1
 let A1:=(BB.k 8 t4 k0 k1).bind C8
 let z1:R2 Dop.BM CK CT:=
 let z2:R2 Dop.BM CK CT:=
 let z3:R2 Dop.BM CK CT:=
 ci t11 (A2.bind fun y3=>
 ck ((0:Int)<=0/\0<I 2)<|
 (Lu.k b3.n y3.1.2.1 y3.2.1 y3.2.2.1).bind fun y2=>
 (FI.k b5.x0 b2.n y2.1.1 y2.2.1 y2.2.2.1).bind fun y1=>
 Ar (Dop.BM.mk y1.1.1 b2.EA 0 0 false) y1.2.1 y1.2.2.1)<|
 (GC.k b3.EA k0 k1).bind fun y3=>
 ck ((0:Int)<=0/\0<I 2)<|
 (Lu.k b2.n y3.1.2.1 y3.2.1 y3.2.2.1).bind fun y2=>
 (FI.k b5.x0 y2.1.1 b3.n y2.2.1 y2.2.2.1).bind fun y1=>
 Ar (Dop.BM.mk y1.1.1 b3.EA 0 0 false) y1.2.1 y1.2.2.1
 ci (!(t1=(43:UInt8)::[])) (ci (!(t1=(45:UInt8)::[])) A1<|
 ci t12 A1<|
 z3)<|
 z3
 ci t11 (z2)<|
 ci t12 (z2)<|
 (Iw.k b2.EA b3.EA k0 k1).bind fun y1=>
 tK.2.2.2.2.1 t1 t16 y1.1.1 y1.2.1 y1.2.2.1 b2 b3 b4 b5
 ci t11 (ci t12 (A2.bind fun y4=>
 ci (!(t1=(45:UInt8)::[])) ((BB.k 8 t4 y4.2.1 y4.2.2.1).bind C8)<|
 ci (!(b2.EA=b3.EA)) ((BB.k 8 t4 y4.2.1 y4.2.2.1).bind C8)<|
 (FI.k 2 b2.n b3.n y4.2.1 y4.2.2.1).bind fun y3=>
 ci (y4.1.2.1=1) (Ar (Dop.BM.mk y3.1.1 1 0 0 false) y3.2.1 y3.2.2.1)<|
 (E9.k y4.1.2.1 y3.2.1 y3.2.2.1).bind fun y2=>
 (FI.k 4 y3.1.1 y2.1.1 y2.2.1 y2.2.2.1).bind fun y1=>
 Ar (Dop.BM.mk y1.1.1 1 0 0 false) y1.2.1 y1.2.2.1)<|
 z1)<|
 z1
def MP.kB (tK:Bt.KT):MP.T:=fun t1 t16 t24 k0 k1 b2 b3 b4 b5=>
 let z1:R2 Dop.BM CK CT:=
 (Iw.k b2.EA b2.EA k0 k1).bind fun y2=>
 let z3:R2 Dop.BM CK CT:=
 ck (0<=t16/\t16<I 2)<|
 ck (t16.toNat<(b5.x0::b5.x1::[]).length)<|
 (FI.k ((b5.x0::b5.x1::[]).getD t16.toNat 0) b2.n b3.n y2.2.1 y2.2.2.1).bind fun y1=>
 Ar (Dop.BM.mk y1.1.1 y2.1.1 0 0 false) y1.2.1 y1.2.2.1
 ci (t1=(62:UInt8)::(62:UInt8)::[]) (ci (y2.1.1=2) (ck ((0:Int)<=1/\1<I 2)<|
 ck (Int.toNat 1<(b5.x0::b5.x1::[]).length)<|
 (FI.k ((b5.x0::b5.x1::[]).getD (Int.toNat 1) 0) b2.n b3.n y2.2.1 y2.2.2.1).bind fun y1=>
 Ar (Dop.BM.mk y1.1.1 y2.1.1 0 0 false) y1.2.1 y1.2.2.1)<|
 z3)<|
 z3
 let z2:R2 Dop.BM CK CT:=
 ck (0<=t16/\t16<I 2)<|
 ck (t16.toNat<(b5.x0::b5.x1::[]).length)<|
 (FI.k ((b5.x0::b5.x1::[]).getD t16.toNat 0) b2.n b3.n k0 k1).bind fun y1=>
 Ar (Dop.BM.mk y1.1.1 t24 0 0 false) y1.2.1 y1.2.2.1
 ci (t1=(60:UInt8)::(60:UInt8)::[]) (z1)<|
 ci (t1=(62:UInt8)::(62:UInt8)::[]) (z1)<|
 ci (t1=(62:UInt8)::(62:UInt8)::[]) (ci (t24=2) (ck ((0:Int)<=1/\1<I 2)<|
 ck (Int.toNat 1<(b5.x0::b5.x1::[]).length)<|
 (FI.k ((b5.x0::b5.x1::[]).getD (Int.toNat 1) 0) b2.n b3.n k0 k1).bind fun y1=>
 Ar (Dop.BM.mk y1.1.1 t24 0 0 false) y1.2.1 y1.2.2.1)<|
 z2)<|
 z2
def Bt.kS (tK:Bt.KT):Bt.KT:=(QM.kB tK,MM.kB tK,MN.kB tK,MO.kB tK,MP.kB tK,())
def Bt.kL (n:Nat):Bt.KT:=Bd Bt.kS n
def Bt.k0 (tK:Bt.KT) (t1:List UInt8) (t2 t3:Dop.BM) (t4:Int) (k0:CK) (k1:CT):R2 Dop.BM CK CT:=
 ci (!(k0.e=0)) (Ar (Dop.BM.mk (-1) 1 0 0 false) k0 k1)<|
 (Dg.k t2.EA k0 k1).bind fun y2=>
 (Dg.k t3.EA y2.2.1 y2.2.2.1).bind fun y1=>
 tK.1 t1 t4 (decide (y2.1.1=4)) (decide (y1.1.1=4)) y1.2.1 y1.2.2.1 t2 t3 (Dop.BM.mk 0 0 0 0 false)
def Bt.k (t1:List UInt8) (t2 t3:Dop.BM) (t4:Int) (k0:CK) (k1:CT):R2 Dop.BM CK CT:=Bt.k0 (Bt.kL 1000000) t1 t2 t3 t4 k0 k1
def Bt.Kc:=kd 148 Bt.p fun x=>Bt.k x.1.2.1 x.1.2.2.1 x.1.2.2.2.1 x.1.2.2.2.2.1 x.2.1 x.2.2.1
theorem Bt.Kh:Bt.Kc.Holds prog:=GB AJ (hc Dg.Kh (hc Ng.Kh (hc contains.holds (hc KJ.Kh (hc BB.Kh (hc FI.Kh (hc GC.Kh (hc E9.Kh (hc Lu.Kh (hc Iw.Kh hn)))))))))) Bt.ok (fun t x=>Bt.k0 t x.1.2.1 x.1.2.2.1 x.1.2.2.2.1 x.1.2.2.2.2.1 x.2.1 x.2.2.1) (fun c=>(fun t1 t4 t11 t12 k0 k1 b2 b3 b4=>c 4 Bt.q4 rfl (((),t1,t4,(),(),(),t11,t12,()),(k0,k1,(b2,()),(b3,()),(b4,()),())),fun t1 t4 t11 t12 t14 t16 k0 k1 b2 b3 b4 b5=>c 10 Bt.WK rfl (((),t1,t4,(),(),(),t11,t12,(),t14,t16,()),(k0,k1,(b2,()),(b3,()),(b4,()),(b5,()),())),fun t1 t16 k0 k1 b2 b3 b4 b5=>c 13 Bt.aB rfl (((),t1,(),(),(),(),t16,()),(k0,k1,(b2,()),(b3,()),(b4,()),(b5,()),())),fun t1 t4 t11 t12 t16 k0 k1 b2 b3 b4 b5=>c 16 Bt.gC rfl (((),t1,t4,(),(),(),t11,t12,(),t16,()),(k0,k1,(b2,()),(b3,()),(b4,()),(b5,()),())),fun t1 t16 t24 k0 k1 b2 b3 b4 b5=>c 33 Bt.pA rfl (((),t1,(),(),(),(),t16,t24,()),(k0,k1,(b2,()),(b3,()),(b4,()),(b5,()),())),())) Bt.kS (by kernel_rfl)
end
end Go.Proofs.Tryz
