/-
 Functions in plain words (what their equations say), and their contracts. Written by a program.
-/
import Derived.Test.YtkpggdcpaeanaaaGreatDoorTwL
import Derived.Test.YtkpggdcpaeanaaaGreatDoorMo
set_option linter.all false
set_option maxRecDepth 100000
set_option maxHeartbeats 4000000
namespace Go.Proofs.Tryz
open Go Go.En
noncomputable section
def GX.KE:Env Dop.D4:=Ae prog 130 tb [BU.Lv,Dd.Kc,A4.Kc,Mn.Kc] GX.p
def GX.k (t1:List UInt8) (t2 t3:Int) (t4:Bool) (k0:CK) (k1:CT):ib Dop.DP Bool CK CT:=GX.KE.Fm 3000 1000000 GX.p.sp (((),t1,t2,t3,t4,()),(k0,k1,()))
def GX.Kc:=kd 130 GX.p fun x=>GX.k x.1.2.1 x.1.2.2.1 x.1.2.2.2.1 x.1.2.2.2.2.1 x.2.1 x.2.2.1
theorem GX.Kh:GX.Kc.Holds prog:=kh AH (hc BU.ID (hc Dd.Kh (hc A4.Kh (hc Mn.Kh hn)))) GX.ok (by kernel_rfl)
abbrev Cb.kr (r:Fj.T) (n:Int) (k0:CK) (k1:CT):OV CK CT:=r.1 (((),n,()),(k0,k1,()))
abbrev PD.T:Type:=Dop.eW->Int->CK->CT->OV CK CT
abbrev Cb.KT:Type:=PD.T×Unit
def PD.kB (rK:Fj.T) (tK:Cb.KT):PD.T:=fun t45 t46 k0 k1=>
 ci (t46<4) (ck (0<=t46/\t46<I 4)<|
 ci (0<=(t45.x0::t45.x1::t45.x2::t45.x3::[]).getD t46.toNat 0) ((Cb.kr rK ((t45.x0::t45.x1::t45.x2::t45.x3::[]).getD t46.toNat 0) k0 k1).bind fun y4=>
 ck (Au (t46+1))<|
 tK.1 t45 (t46+1) y4.2.1 y4.2.2.1)<|
 ck (Au (t46+1))<|
 tK.1 t45 (t46+1) k0 k1)<|
 Zm k0 k1
def Cb.kS (rK:Fj.T) (tK:Cb.KT):Cb.KT:=(PD.kB rK tK,())
def Cb.kL (rK:Fj.T) (n:Nat):Cb.KT:=DA (Cb.kS rK) n
def Cb.k0 (rK:Fj.T) (tK:Cb.KT) (n:Int) (k0:CK) (k1:CT):OV CK CT:=
 (Cr.k n k0.t k0.num k0.funcs k0.globals k0.top k0.nodes k0.names k0.sigs k0.f k0.EV k0.loops k0.RD k0.Px k0.e k0.when k1).bind fun y2=>
 ci (y2.1.1.kind=3) (ci (y2.1.1.text=(38:UInt8)::[]) ((Cr.k y2.1.1.a (Dop.G3.mk y2.2.1.1 y2.2.1.2.1 y2.2.1.2.2.1) y2.2.1.2.2.2.2.1 y2.2.1.2.2.2.2.2.1 y2.2.1.2.2.2.2.2.2.1 y2.2.1.2.2.2.2.2.2.2.1 y2.2.1.2.2.2.2.2.2.2.2.1 y2.2.1.2.2.2.2.2.2.2.2.2.1 y2.2.1.2.2.2.2.2.2.2.2.2.2.1 (Dop.EY.mk y2.2.1.2.2.2.2.2.2.2.2.2.2.2.2.1 y2.2.1.2.2.2.2.2.2.2.2.2.2.2.2.2.1 y2.2.1.2.2.2.2.2.2.2.2.2.2.2.2.2.2.1 y2.2.1.2.2.2.2.2.2.2.2.2.2.2.2.2.2.2.1 y2.2.1.2.2.2.2.2.2.2.2.2.2.2.2.2.2.2.2.1) y2.2.1.2.2.2.2.2.2.2.2.2.2.2.2.2.2.2.2.2.1 y2.2.1.2.2.2.2.2.2.2.2.2.2.2.2.2.2.2.2.2.2.2.2.1 y2.2.1.2.2.2.2.2.2.2.2.2.2.2.2.2.2.2.2.2.2.2.2.2.1 y2.2.1.2.2.2.2.2.2.2.2.2.2.2.2.2.2.2.2.2.2.2.2.2.2.1 y2.2.1.2.2.2.2.2.2.2.2.2.2.2.2.2.2.2.2.2.2.2.2.2.2.2.1 y2.2.1.2.2.2.2.2.2.2.2.2.2.2.2.2.2.2.2.2.2.2.2.2.2.2.2.1 y2.2.2.1).bind fun y5=>
 ci (y5.1.1.kind=2) ((Cr.k y2.1.1.a (Dop.G3.mk y5.2.1.1 y5.2.1.2.1 y5.2.1.2.2.1) y5.2.1.2.2.2.2.1 y5.2.1.2.2.2.2.2.1 y5.2.1.2.2.2.2.2.2.1 y5.2.1.2.2.2.2.2.2.2.1 y5.2.1.2.2.2.2.2.2.2.2.1 y5.2.1.2.2.2.2.2.2.2.2.2.1 y5.2.1.2.2.2.2.2.2.2.2.2.2.1 (Dop.EY.mk y5.2.1.2.2.2.2.2.2.2.2.2.2.2.2.1 y5.2.1.2.2.2.2.2.2.2.2.2.2.2.2.2.1 y5.2.1.2.2.2.2.2.2.2.2.2.2.2.2.2.2.1 y5.2.1.2.2.2.2.2.2.2.2.2.2.2.2.2.2.2.1 y5.2.1.2.2.2.2.2.2.2.2.2.2.2.2.2.2.2.2.1) y5.2.1.2.2.2.2.2.2.2.2.2.2.2.2.2.2.2.2.2.1 y5.2.1.2.2.2.2.2.2.2.2.2.2.2.2.2.2.2.2.2.2.2.2.1 y5.2.1.2.2.2.2.2.2.2.2.2.2.2.2.2.2.2.2.2.2.2.2.2.1 y5.2.1.2.2.2.2.2.2.2.2.2.2.2.2.2.2.2.2.2.2.2.2.2.2.1 y5.2.1.2.2.2.2.2.2.2.2.2.2.2.2.2.2.2.2.2.2.2.2.2.2.2.1 y5.2.1.2.2.2.2.2.2.2.2.2.2.2.2.2.2.2.2.2.2.2.2.2.2.2.2.1 y5.2.2.1).bind fun y7=>
 ck (Au ((AP k0.taken y7.1.1.text).getD (0:Int)+1))<|
 tK.1 (Dop.eW.mk y2.1.1.a y2.1.1.b y2.1.1.c y2.1.1.d) 0 ((CK.FE (CK.X5 (CK.Ku (CK.OJ (CK.H2 (CK.Lp (CK.dO (CK.Zx (CK.Iy (CK.Cp (CK.Dx (CK.OK (CK.Ey (CK.Jm (CK.NJ (CK.jC k0 (Dop.G3.mk y7.2.1.1 y7.2.1.2.1 y7.2.1.2.2.1)) y7.2.1.2.2.2.2.1) y7.2.1.2.2.2.2.2.1) y7.2.1.2.2.2.2.2.2.1) y7.2.1.2.2.2.2.2.2.2.1) y7.2.1.2.2.2.2.2.2.2.2.1) y7.2.1.2.2.2.2.2.2.2.2.2.1) y7.2.1.2.2.2.2.2.2.2.2.2.2.1) (CY k0.taken y7.1.1.text ((AP k0.taken y7.1.1.text).getD (0:Int)+1))) (Dop.EY.mk y7.2.1.2.2.2.2.2.2.2.2.2.2.2.2.1 y7.2.1.2.2.2.2.2.2.2.2.2.2.2.2.2.1 y7.2.1.2.2.2.2.2.2.2.2.2.2.2.2.2.2.1 y7.2.1.2.2.2.2.2.2.2.2.2.2.2.2.2.2.2.1 y7.2.1.2.2.2.2.2.2.2.2.2.2.2.2.2.2.2.2.1)) y7.2.1.2.2.2.2.2.2.2.2.2.2.2.2.2.2.2.2.2.1) y7.2.1.2.2.2.2.2.2.2.2.2.2.2.2.2.2.2.2.2.2.2.2.1) y7.2.1.2.2.2.2.2.2.2.2.2.2.2.2.2.2.2.2.2.2.2.2.2.1) y7.2.1.2.2.2.2.2.2.2.2.2.2.2.2.2.2.2.2.2.2.2.2.2.2.1) y7.2.1.2.2.2.2.2.2.2.2.2.2.2.2.2.2.2.2.2.2.2.2.2.2.2.1) y7.2.1.2.2.2.2.2.2.2.2.2.2.2.2.2.2.2.2.2.2.2.2.2.2.2.2.1)) y7.2.2.1)<|
 tK.1 (Dop.eW.mk y2.1.1.a y2.1.1.b y2.1.1.c y2.1.1.d) 0 ((CK.FE (CK.X5 (CK.Ku (CK.OJ (CK.H2 (CK.Lp (CK.dO (CK.Iy (CK.Cp (CK.Dx (CK.OK (CK.Ey (CK.Jm (CK.NJ (CK.jC k0 (Dop.G3.mk y5.2.1.1 y5.2.1.2.1 y5.2.1.2.2.1)) y5.2.1.2.2.2.2.1) y5.2.1.2.2.2.2.2.1) y5.2.1.2.2.2.2.2.2.1) y5.2.1.2.2.2.2.2.2.2.1) y5.2.1.2.2.2.2.2.2.2.2.1) y5.2.1.2.2.2.2.2.2.2.2.2.1) y5.2.1.2.2.2.2.2.2.2.2.2.2.1) (Dop.EY.mk y5.2.1.2.2.2.2.2.2.2.2.2.2.2.2.1 y5.2.1.2.2.2.2.2.2.2.2.2.2.2.2.2.1 y5.2.1.2.2.2.2.2.2.2.2.2.2.2.2.2.2.1 y5.2.1.2.2.2.2.2.2.2.2.2.2.2.2.2.2.2.1 y5.2.1.2.2.2.2.2.2.2.2.2.2.2.2.2.2.2.2.1)) y5.2.1.2.2.2.2.2.2.2.2.2.2.2.2.2.2.2.2.2.1) y5.2.1.2.2.2.2.2.2.2.2.2.2.2.2.2.2.2.2.2.2.2.2.1) y5.2.1.2.2.2.2.2.2.2.2.2.2.2.2.2.2.2.2.2.2.2.2.2.1) y5.2.1.2.2.2.2.2.2.2.2.2.2.2.2.2.2.2.2.2.2.2.2.2.2.1) y5.2.1.2.2.2.2.2.2.2.2.2.2.2.2.2.2.2.2.2.2.2.2.2.2.2.1) y5.2.1.2.2.2.2.2.2.2.2.2.2.2.2.2.2.2.2.2.2.2.2.2.2.2.2.1)) y5.2.2.1)<|
 tK.1 (Dop.eW.mk y2.1.1.a y2.1.1.b y2.1.1.c y2.1.1.d) 0 ((CK.FE (CK.X5 (CK.Ku (CK.OJ (CK.H2 (CK.Lp (CK.dO (CK.Iy (CK.Cp (CK.Dx (CK.OK (CK.Ey (CK.Jm (CK.NJ (CK.jC k0 (Dop.G3.mk y2.2.1.1 y2.2.1.2.1 y2.2.1.2.2.1)) y2.2.1.2.2.2.2.1) y2.2.1.2.2.2.2.2.1) y2.2.1.2.2.2.2.2.2.1) y2.2.1.2.2.2.2.2.2.2.1) y2.2.1.2.2.2.2.2.2.2.2.1) y2.2.1.2.2.2.2.2.2.2.2.2.1) y2.2.1.2.2.2.2.2.2.2.2.2.2.1) (Dop.EY.mk y2.2.1.2.2.2.2.2.2.2.2.2.2.2.2.1 y2.2.1.2.2.2.2.2.2.2.2.2.2.2.2.2.1 y2.2.1.2.2.2.2.2.2.2.2.2.2.2.2.2.2.1 y2.2.1.2.2.2.2.2.2.2.2.2.2.2.2.2.2.2.1 y2.2.1.2.2.2.2.2.2.2.2.2.2.2.2.2.2.2.2.1)) y2.2.1.2.2.2.2.2.2.2.2.2.2.2.2.2.2.2.2.2.1) y2.2.1.2.2.2.2.2.2.2.2.2.2.2.2.2.2.2.2.2.2.2.2.1) y2.2.1.2.2.2.2.2.2.2.2.2.2.2.2.2.2.2.2.2.2.2.2.2.1) y2.2.1.2.2.2.2.2.2.2.2.2.2.2.2.2.2.2.2.2.2.2.2.2.2.1) y2.2.1.2.2.2.2.2.2.2.2.2.2.2.2.2.2.2.2.2.2.2.2.2.2.2.1) y2.2.1.2.2.2.2.2.2.2.2.2.2.2.2.2.2.2.2.2.2.2.2.2.2.2.2.1)) y2.2.2.1)<|
 tK.1 (Dop.eW.mk y2.1.1.a y2.1.1.b y2.1.1.c y2.1.1.d) 0 ((CK.FE (CK.X5 (CK.Ku (CK.OJ (CK.H2 (CK.Lp (CK.dO (CK.Iy (CK.Cp (CK.Dx (CK.OK (CK.Ey (CK.Jm (CK.NJ (CK.jC k0 (Dop.G3.mk y2.2.1.1 y2.2.1.2.1 y2.2.1.2.2.1)) y2.2.1.2.2.2.2.1) y2.2.1.2.2.2.2.2.1) y2.2.1.2.2.2.2.2.2.1) y2.2.1.2.2.2.2.2.2.2.1) y2.2.1.2.2.2.2.2.2.2.2.1) y2.2.1.2.2.2.2.2.2.2.2.2.1) y2.2.1.2.2.2.2.2.2.2.2.2.2.1) (Dop.EY.mk y2.2.1.2.2.2.2.2.2.2.2.2.2.2.2.1 y2.2.1.2.2.2.2.2.2.2.2.2.2.2.2.2.1 y2.2.1.2.2.2.2.2.2.2.2.2.2.2.2.2.2.1 y2.2.1.2.2.2.2.2.2.2.2.2.2.2.2.2.2.2.1 y2.2.1.2.2.2.2.2.2.2.2.2.2.2.2.2.2.2.2.1)) y2.2.1.2.2.2.2.2.2.2.2.2.2.2.2.2.2.2.2.2.1) y2.2.1.2.2.2.2.2.2.2.2.2.2.2.2.2.2.2.2.2.2.2.2.1) y2.2.1.2.2.2.2.2.2.2.2.2.2.2.2.2.2.2.2.2.2.2.2.2.1) y2.2.1.2.2.2.2.2.2.2.2.2.2.2.2.2.2.2.2.2.2.2.2.2.2.1) y2.2.1.2.2.2.2.2.2.2.2.2.2.2.2.2.2.2.2.2.2.2.2.2.2.2.1) y2.2.1.2.2.2.2.2.2.2.2.2.2.2.2.2.2.2.2.2.2.2.2.2.2.2.2.1)) y2.2.2.1
def Cb.kf (rK:Fj.T) (n:Int) (k0:CK) (k1:CT):OV CK CT:=Cb.k0 rK (Cb.kL rK 1000000) n k0 k1
def Fj.kS (r:Fj.T):Fj.T:=(fun x=>Cb.kf r x.1.2.1 x.2.1 x.2.2.1,())
def Fj.kR (n:Nat):Fj.T:=DA Fj.kS n
def Cb.Kc (n:Nat):=kd 129 Cb.p (Fj.kR n).1
def Cb.Lv:=Cb.Kc FU
def Cb.k:=Cb.kr (Fj.kR FU)
def Fj.RY (n:Nat):List (Bp Dop.D4):=[Cb.Kc n]
theorem Fj.Ej: ∀ n,(Cb.Kc n).Holds prog/\True
 | 0=>⟨AN AH Cb.ok,trivial⟩
 | n+1=>by
  obtain ⟨h0,_⟩:=Fj.Ej n
  have hh: ∀ c∈Fj.RY n,c.Holds prog:=(hc h0 hn)
  exact ⟨GD AH (Ab hh (hc Cr.Kh hn)) Cb.ok (fun t x=>Cb.k0 (Fj.kR n) t x.1.2.1 x.2.1 x.2.2.1) (fun c=>(fun t45 t46 k0 k1=>c 4 Cb.q4 rfl (((),t45,t46,()),(k0,k1,())),())) (Cb.kS (Fj.kR n)) (by kernel_rfl),
   trivial⟩
theorem Cb.ID:Cb.Lv.Holds prog:=(Fj.Ej FU).1
def Gz.k (n:Int) (k0:CH) (k1:CT):R2 Dop.AU CH CT:=
 let A1:=Ao (Dop.AU.mk 0 (-1) (-1) (-1) (-1) [] 0 0 0) k0 k1
 ci (n<0) A1<|
 ci (I k0.t.nodes.length<=n) A1<|
 ck (0<=n/\n<I k0.t.nodes.length)<|
 Ao (List.getD k0.t.nodes n.toNat Dop.d5) k0 k1
def Gz.Kc:=kd 74 Gz.p fun x=>Gz.k x.1.2.1 x.2.1 x.2.2.1
theorem Gz.Kh:Gz.Kc.Holds prog:=kh AH hn Gz.ok (by kernel_rfl)
def CX.k (e n:Int) (k0:CH) (k1:CT):R2 Dop.CE CH CT:=
 let A1:=Dop.CE.mk (-1) 1 0 0 false
 ci (k0.e=0) ((Gz.k n k0 k1).bind fun y3=>
 Ao A1 (CH.FE (CH.X5 y3.2.1 e) y3.1.1.at_) y3.2.2.1)<|
 Ao A1 k0 k1
def CX.Kc:=kd 123 CX.p fun x=>CX.k x.1.2.1 x.1.2.2.1 x.2.1 x.2.2.1
theorem CX.Kh:CX.Kc.Holds prog:=kh AH (hc Gz.Kh hn) CX.ok (by kernel_rfl)
abbrev LC.T:Type:=Int->Int->Int->CH->CT->R2 Int CH CT
abbrev JV.T:Type:=Int->Int->Int->Int->Int->CH->CT->R2 Int CH CT
abbrev BI.KT:Type:=LC.T×JV.T×Unit
def LC.kB (tK:BI.KT):LC.T:=fun t1 t2 t7 k0 k1=>
 let A1:=List.getD k0.t.types t7.toNat Dop.d6
 let A2:=List.getD k0.num A1.elem.toNat 0
 let z1:R2 Int CH CT:=
 ck (0<=t1/\t1<I k0.num.length)<|
 ck (t1.toNat<k0.num.length)<|
 Ao (List.getD k0.num t1.toNat 0) k0 k1
 ci (t7<=t1) (ci (t7<I k0.t.types.length) (ck (0<=t7/\t7<I k0.t.types.length)<|
 ci (A1.kind=4) (ck (0<=A1.elem/\A1.elem<I k0.num.length)<|
 ck (A1.elem.toNat<k0.num.length)<|
 (Ig.k A2 k1).bind fun y5=>
 tK.2.1 t1 t2 t7 y5.1.1 y5.1.2.1 k0 y5.2.1)<|
 ci (A1.kind=5) (ck (0<=A1.elem/\A1.elem<I k0.num.length)<|
 ck (A1.elem.toNat<k0.num.length)<|
 (KD.k A2 (A1.n) k1).bind fun y6=>
 tK.2.1 t1 t2 t7 y6.1.1 y6.1.2.1 k0 y6.2.1)<|
 ci (A1.kind=6) ((Ih.k (A1.name) k1).bind fun y7=>
 tK.2.1 t1 t2 t7 y7.1.1 y7.1.2.1 k0 y7.2.1)<|
 tK.2.1 t1 t2 t7 t7 0 k0 k1)<|
 z1)<|
 z1
def JV.kB (tK:BI.KT):JV.T:=fun t1 t2 t7 t9 t10 k0 k1=>
 ci (!(t10=0)) ((CX.k t10 t2 k0 k1).bind fun y3=>
 Ao 1 y3.2.1 y3.2.2.1)<|
 ck (Cq none (room 8 (k0.num.length+(t9::[]).length)))<|
 ck (Au (t7+1))<|
 tK.1 t1 t2 (t7+1) ((CH.NJ k0 (k0.num++t9::[]))) k1
def BI.kS (tK:BI.KT):BI.KT:=(LC.kB tK,JV.kB tK,())
def BI.kL (n:Nat):BI.KT:=DA BI.kS n
def BI.k0 (tK:BI.KT) (t1 t2:Int) (k0:CH) (k1:CT):R2 Int CH CT:=
 tK.1 t1 t2 (I k0.num.length) k0 k1
def BI.k (t1 t2:Int) (k0:CH) (k1:CT):R2 Int CH CT:=BI.k0 (BI.kL 1000000) t1 t2 k0 k1
def BI.Kc:=kd 121 BI.p fun x=>BI.k x.1.2.1 x.1.2.2.1 x.2.1 x.2.2.1
theorem BI.Kh:BI.Kc.Holds prog:=GD AH (hc Ig.Kh (hc KD.Kh (hc Ih.Kh (hc CX.Kh hn)))) BI.ok (fun t x=>BI.k0 t x.1.2.1 x.1.2.2.1 x.2.1 x.2.2.1) (fun c=>(fun t1 t2 t7 k0 k1=>c 2 BI.q2 rfl (((),t1,t2,t7,()),(k0,k1,())),fun t1 t2 t7 t9 t10 k0 k1=>c 13 BI.YU rfl (((),t1,t2,t7,t9,t10,()),(k0,k1,())),())) BI.kS (by kernel_rfl)
def HV.KE:Env Dop.D4:=Ae prog 75 tb [GG.Kc,Gz.Kc,BI.Kc,DL.Kc,CX.Kc] HV.p
def HV.k (x:Dop.AU) (n:Int) (k0:CH) (k1:CT):OV CH CT:=HV.KE.Fm 3000 1000000 HV.p.sp (((),x,n,()),(k0,k1,()))
def HV.Kc:=kd 75 HV.p fun x=>HV.k x.1.2.1 x.1.2.2.1 x.2.1 x.2.2.1
theorem HV.Kh:HV.Kc.Holds prog:=kh AH (hc GG.Kh (hc Gz.Kh (hc BI.Kh (hc DL.Kh (hc CX.Kh hn))))) HV.ok (by kernel_rfl)
def FV.k (t:Int) (k0:CH) (k1:CT):R2 Int CH CT:=
 (Ef.k t k1).bind fun y2=>
 Ao y2.1.1.kind k0 y2.2.1
def FV.Kc:=kd 127 FV.p fun x=>FV.k x.1.2.1 x.2.1 x.2.2.1
theorem FV.Kh:FV.Kc.Holds prog:=kh AH (hc Ef.Kh hn) FV.ok (by kernel_rfl)
def HM.k (t:Int) (k0:CH) (k1:CT):R2 Bool CH CT:=
 (FV.k t k0 k1).bind fun y2=>
 ci (y2.1.1=1) (Ao true y2.2.1 y2.2.2.1)<|
 ci (y2.1.1=2) (Ao true y2.2.1 y2.2.2.1)<|
 Ao (decide (y2.1.1=3)) y2.2.1 y2.2.2.1
def HM.Kc:=kd 125 HM.p fun x=>HM.k x.1.2.1 x.2.1 x.2.2.1
theorem HM.Kh:HM.Kc.Holds prog:=kh AH (hc FV.Kh hn) HM.ok (by kernel_rfl)
abbrev Lj.T:Type:=Int->Int->Int->CH->CT->Dop.AU->OV CH CT
abbrev D6.KT:Type:=Lj.T×Unit
def Lj.kB (tK:D6.KT):Lj.T:=fun t6 t7 t13 k0 k1 b2=>
 ck ((0:Int)<=0/\0<I k0.names.length)<|
 ck (Int.toNat 0<k0.names.length)<|
 ck (Int.toNat 0<k0.names.length)<|
 ck (Cq none (room 40 (k0.globals.length+(Dop.NY.mk b2.text k0.top t7 t13::[]).length)))<|
 ck (Au (k0.top+t7))<|
 Zm (CH.Cp (CH.OK (CH.Ey k0 (k0.globals++Dop.NY.mk b2.text k0.top t7 t13::[])) (k0.top+t7)) (k0.names.set (Int.toNat 0) (CY (List.getD k0.names (Int.toNat 0) (([]:List (List UInt8×Dop.DP)))) b2.text (Dop.DP.mk 1 k0.top t6)))) k1
def D6.kS (tK:D6.KT):D6.KT:=(Lj.kB tK,())
def D6.kL (n:Nat):D6.KT:=DA D6.kS n
def D6.k0 (tK:D6.KT) (t1:Dop.AU) (t2:Int) (k0:CH) (k1:CT):OV CH CT:=
 (BI.k t1.Ad t2 k0 k1).bind fun y2=>
 (BU.k y2.1.1 y2.2.2.1).bind fun y3=>
 ck ((0:Int)<=0/\0<I (CH.names y2.2.1).length)<|
 ck (Int.toNat 0<(CH.names y2.2.1).length)<|
 ck (Int.toNat 0<(CH.names y2.2.1).length)<|
 ci (!(CH.e y2.2.1=0)) (Zm y2.2.1 y3.2.1)<|
 ci ((AP (List.getD (CH.names y2.2.1) (Int.toNat 0) (([]:List (List UInt8×Dop.DP)))) t1.text).isSome) ((CX.k 7 t2 y2.2.1 y3.2.1).bind en)<|
 ci ((AP (CH.sigs y2.2.1) t1.text).isSome) ((CX.k 7 t2 y2.2.1 y3.2.1).bind en)<|
 ci (!y3.1.2.1) ((CX.k 8 t2 y2.2.1 y3.2.1).bind en)<|
 ci (!(t1.n=0)) ((HM.k y2.1.1 y2.2.1 y3.2.1).bind fun y9=>
 ci (!y9.1.1) ((CX.k 8 t2 y9.2.1 y9.2.2.1).bind en)<|
 ck (Au (CH.top y9.2.1+y3.1.1))<|
 ci (4096<CH.top y9.2.1+y3.1.1) ((CX.k 4 t2 y9.2.1 y9.2.2.1).bind en)<|
 (EH.k t1.n).bind fun y12=>
 (FV.k y2.1.1 y9.2.1 y9.2.2.1).bind fun y13=>
 ci (y13.1.1=3) (tK.1 y2.1.1 y3.1.1 (bits BinOp.and IntKind.i64 y12.1.1 255) y13.2.1 y13.2.2.1 t1)<|
 tK.1 y2.1.1 y3.1.1 y12.1.1 y13.2.1 y13.2.2.1 t1)<|
 ck (Au (CH.top y2.2.1+y3.1.1))<|
 ci (4096<CH.top y2.2.1+y3.1.1) ((CX.k 4 t2 y2.2.1 y3.2.1).bind en)<|
 (EH.k t1.n).bind fun y10=>
 (FV.k y2.1.1 y2.2.1 y3.2.1).bind fun y11=>
 ci (y11.1.1=3) (tK.1 y2.1.1 y3.1.1 (bits BinOp.and IntKind.i64 y10.1.1 255) y11.2.1 y11.2.2.1 t1)<|
 tK.1 y2.1.1 y3.1.1 y10.1.1 y11.2.1 y11.2.2.1 t1
def D6.k (t1:Dop.AU) (t2:Int) (k0:CH) (k1:CT):OV CH CT:=D6.k0 (D6.kL 1000000) t1 t2 k0 k1
def D6.Kc:=kd 76 D6.p fun x=>D6.k x.1.2.1 x.1.2.2.1 x.2.1 x.2.2.1
theorem D6.Kh:D6.Kc.Holds prog:=GD AH (hc BI.Kh (hc BU.ID (hc CX.Kh (hc HM.Kh (hc EH.Kh (hc FV.Kh hn)))))) D6.ok (fun t x=>D6.k0 t x.1.2.1 x.1.2.2.1 x.2.1 x.2.2.1) (fun c=>(fun t6 t7 t13 k0 k1 b2=>c 15 D6.ak rfl (((),(),t6,t7,t13,()),(k0,k1,(b2,()),())),())) D6.kS (by kernel_rfl)
abbrev PW.T:Type:=Int->List Int->CH->CT->Dop.AU->List Int->Int->OV CH CT
abbrev Lk.T:Type:=Int->List Int->Int->Int->CH->CT->Dop.AU->List Int->Int->OV CH CT
abbrev DM.KT:Type:=PW.T×Lk.T×Unit
def PW.kB (tK:DM.KT):PW.T:=fun t2 t11 k0 k1 b2 b3_0 b3_1=>
 let A1:=CX.k 4 t2 k0 k1
 ci (k0.e=0) (ci (6<I t11.length) (A1.bind fun y4=>
 tK.2.1 t2 t11 (I t11.length) 0 y4.2.1 y4.2.2.1 b2 b3_0 b3_1)<|
 ci (I k0.sigs.length=64) (A1.bind fun y5=>
 tK.2.1 t2 t11 (I t11.length) 0 y5.2.1 y5.2.2.1 b2 b3_0 b3_1)<|
 tK.2.1 t2 t11 (I t11.length) 0 k0 k1 b2 b3_0 b3_1)<|
 tK.2.1 t2 t11 (I t11.length) 0 k0 k1 b2 b3_0 b3_1
def Lk.kB (tK:DM.KT):Lk.T:=fun t2 t85 t86 t87 k0 k1 b2 b3_0 b3_1=>
 let A2:=List.getD t85 t87.toNat 0
 let A1:=CH.Iy k0 (CY k0.sigs b2.text (Dop.Pw.mk b3_0 b3_1))
 ci (t87<t86) (ck (0<=t87/\t87<I t85.length)<|
 ck (t87.toNat<t85.length)<|
 (Gz.k A2 k0 k1).bind fun y3=>
 (BI.k y3.1.1.Ad A2 y3.2.1 y3.2.2.1).bind fun y4=>
 ci (CH.e y4.2.1=0) ((Dd.k y4.1.1 y4.2.2.1).bind fun y6=>
 ci (!y6.1.1) ((CX.k 8 A2 y4.2.1 y6.2.1).bind fun y8=>
 ck (Cq none (room 8 (b3_0.length+(y4.1.1::[]).length)))<|
 ck (Au (t87+1))<|
 tK.2.1 t2 t85 t86 (t87+1) y8.2.1 y8.2.2.1 b2 (b3_0++y4.1.1::[]) b3_1)<|
 ck (Cq none (room 8 (b3_0.length+(y4.1.1::[]).length)))<|
 ck (Au (t87+1))<|
 tK.2.1 t2 t85 t86 (t87+1) y4.2.1 y6.2.1 b2 (b3_0++y4.1.1::[]) b3_1)<|
 ck (Cq none (room 8 (b3_0.length+(y4.1.1::[]).length)))<|
 ck (Au (t87+1))<|
 tK.2.1 t2 t85 t86 (t87+1) y4.2.1 y4.2.2.1 b2 (b3_0++y4.1.1::[]) b3_1)<|
 ci (k0.e=0) (ci (!(b3_1=0)) ((Dd.k b3_1 k1).bind fun y5=>
 ci (!y5.1.1) ((CX.k 8 t2 k0 y5.2.1).bind fun y7=>
 Zm (CH.Iy y7.2.1 (CY (CH.sigs y7.2.1) b2.text (Dop.Pw.mk b3_0 b3_1))) y7.2.2.1)<|
 Zm A1 y5.2.1)<|
 Zm A1 k1)<|
 Zm A1 k1
def DM.kS (tK:DM.KT):DM.KT:=(PW.kB tK,Lk.kB tK,())
def DM.kL (n:Nat):DM.KT:=DA DM.kS n
def DM.k0 (tK:DM.KT) (t1:Dop.AU) (t2:Int) (k0:CH) (k1:CT):OV CH CT:=
 (BI.k t1.Ad t2 k0 k1).bind fun y2=>
 ck ((0:Int)<=0/\0<I (CH.names y2.2.1).length)<|
 ck (Int.toNat 0<(CH.names y2.2.1).length)<|
 ck (Int.toNat 0<(CH.names y2.2.1).length)<|
 (GG.k (CH.t y2.2.1) t1.a).bind fun y3=>
 ci (CH.e y2.2.1=0) (ci ((AP (CH.sigs y2.2.1) t1.text).isSome) ((CX.k 7 t2 y2.2.1 y2.2.2.1).bind fun y6=>
 tK.1 t2 y3.1.1 y6.2.1 y6.2.2.1 t1 [] y2.1.1)<|
 ci ((AP (List.getD (CH.names y2.2.1) (Int.toNat 0) (([]:List (List UInt8×Dop.DP)))) t1.text).isSome) ((CX.k 7 t2 y2.2.1 y2.2.2.1).bind fun y7=>
 tK.1 t2 y3.1.1 y7.2.1 y7.2.2.1 t1 [] y2.1.1)<|
 tK.1 t2 y3.1.1 y2.2.1 y2.2.2.1 t1 [] y2.1.1)<|
 tK.1 t2 y3.1.1 y2.2.1 y2.2.2.1 t1 [] y2.1.1
def DM.k (t1:Dop.AU) (t2:Int) (k0:CH) (k1:CT):OV CH CT:=DM.k0 (DM.kL 1000000) t1 t2 k0 k1
def DM.Kc:=kd 77 DM.p fun x=>DM.k x.1.2.1 x.1.2.2.1 x.2.1 x.2.2.1
theorem DM.Kh:DM.Kc.Holds prog:=GD AH (hc BI.Kh (hc GG.Kh (hc CX.Kh (hc Gz.Kh (hc Dd.Kh hn))))) DM.ok (fun t x=>DM.k0 t x.1.2.1 x.1.2.2.1 x.2.1 x.2.2.1) (fun c=>(fun t2 t11 k0 k1 b2 b3_0 b3_1=>c 7 DM.q7 rfl (((),t2,(),(),t11,()),(k0,k1,(b2,()),(b3_0,b3_1,()),())),fun t2 t85 t86 t87 k0 k1 b2 b3_0 b3_1=>c 10 DM.VH rfl (((),t2,(),(),t85,t86,t87,()),(k0,k1,(b2,()),(b3_0,b3_1,()),())),())) DM.kS (by kernel_rfl)
def JX.k (n:Int) (k0:CK) (k1:CT):R2 Int CK CT:=
 ci (n<0) (Ao (-1) k0 k1)<|
 (A9.k n k0 k1).bind fun y3=>
 Ao y3.1.1.n y3.2.1 y3.2.2.1
def JX.Kc:=kd 166 JX.p fun x=>JX.k x.1.2.1 x.2.1 x.2.2.1
theorem JX.Kh:JX.Kc.Holds prog:=kh AH (hc A9.ID hn) JX.ok (by kernel_rfl)
def JY.k (x:Dop.AU) (n:Int) (k0:CK) (k1:CT):R2 Int CK CT:=
 ci (x.a<0) ((CU.k 37 ((-1)) ((-1)) ((-1)) ((-1)) 0 [] k0 k1).bind CN)<|
 (B9.k x.a k0 k1).bind fun y3=>
 ci (CK.e y3.2.1=0) (ci (CK.EV y3.2.1=0) ((A4.k 8 n y3.2.1 y3.2.2.1).bind fun y6=>
 Ao y6.1.1.n y6.2.1 y6.2.2.1)<|
 (Bl.k y3.1.1 (CK.EV y3.2.1) n false y3.2.1 y3.2.2.1).bind fun y6=>
 (CU.k 37 y6.1.1 ((-1)) ((-1)) ((-1)) 0 [] y6.2.1 y6.2.2.1).bind CN)<|
 (Bl.k y3.1.1 (CK.EV y3.2.1) n false y3.2.1 y3.2.2.1).bind fun y5=>
 (CU.k 37 y5.1.1 ((-1)) ((-1)) ((-1)) 0 [] y5.2.1 y5.2.2.1).bind CN
def JY.Kc:=kd 169 JY.p fun x=>JY.k x.1.2.1 x.1.2.2.1 x.2.1 x.2.2.1
theorem JY.Kh:JY.Kc.Holds prog:=kh AH (hc CU.Kh (hc B9.ID (hc A4.Kh (hc Bl.Kh hn)))) JY.ok (by kernel_rfl)
def Ij.KE:Env Dop.D4:=Ae prog 173 tb [Cz.Kc,B9.Lv,GX.Kc,Dd.Kc,A4.Kc,CU.Kc,Eg.Kc,GY.Kc,Bl.Kc,Gw.Kc] Ij.p
def Ij.k (t1:Dop.AU) (t2:Int) (k0:CK) (k1:CT):R2 Int CK CT:=Ij.KE.Fm 3000 1000000 Ij.p.sp (((),t1,t2,()),(k0,k1,()))
def Ij.Kc:=kd 173 Ij.p fun x=>Ij.k x.1.2.1 x.1.2.2.1 x.2.1 x.2.2.1
theorem Ij.Kh:Ij.Kc.Holds prog:=kh AH (hc Cz.Kh (hc B9.ID (hc GX.Kh (hc Dd.Kh (hc A4.Kh (hc CU.Kh (hc Eg.Kh (hc GY.Kh (hc Bl.Kh (hc Gw.Kh hn)))))))))) Ij.ok (by kernel_rfl)
abbrev BV.kr (r:CM.T) (t1:Int) (k0:CK) (k1:CT):R2 Int CK CT:=r.1 (((),t1,()),(k0,k1,()))
abbrev Ga.kr (r:CM.T) (n:Int) (k0:CK) (k1:CT):R2 Int CK CT:=r.2.1 (((),n,()),(k0,k1,()))
abbrev Gu.kr (r:CM.T) (x:Dop.AU) (n:Int) (k0:CK) (k1:CT):R2 Int CK CT:=r.2.2.1 (((),x,n,()),(k0,k1,()))
abbrev C0.kr (r:CM.T) (k1:CK) (k2:CT) (b3:Dop.AU):Option ((Int×Unit)×((Unit×Unit)×CK×CT×(Dop.AU×Unit)×Unit)):=r.2.2.2.1 (((),(),()),(((),()),k1,k2,(b3,()),()))
abbrev LG.T:Type:=Int->CK->CT->Dop.AU->R2 Int CK CT
abbrev LH.T:Type:=Int->Int->CK->CT->Dop.AU->R2 Int CK CT
abbrev BV.KT:Type:=LG.T×LH.T×Unit
def LG.kB (rK:CM.T) (tK:BV.KT):LG.T:=fun t1 k0 k1 b3=>
 let A1:=CU.k b3.kind ((-1)) ((-1)) ((-1)) ((-1)) 0 [] k0 k1
 let z1:R2 Int CK CT:=
 A1.bind CN
 ci (b3.kind=35) (ci (k0.Px=0) ((A4.k 9 t1 k0 k1).bind fun y4=>
 Ao y4.1.1.n y4.2.1 y4.2.2.1)<|
 ci (b3.kind=36) (ci (k0.loops=0) ((A4.k 9 t1 k0 k1).bind fun y6=>
 Ao y6.1.1.n y6.2.1 y6.2.2.1)<|
 A1.bind CN)<|
 z1)<|
 ci (b3.kind=36) (ci (k0.loops=0) ((A4.k 9 t1 k0 k1).bind fun y5=>
 Ao y5.1.1.n y5.2.1 y5.2.2.1)<|
 z1)<|
 A1.bind CN
def LH.kB (rK:CM.T) (tK:BV.KT):LH.T:=fun t1 t27 k0 k1 b3=>
 let A2:=(Gu.kr rK b3 t1 k0 k1).bind CN
 let A1:=CY k0.labels b3.text ((AP k0.labels b3.text).getD (0:Int)+1)
 let z1:R2 Int CK CT:=
 ci (t27=43) (ck (room 8 (k0.names.length+1))<|
 (C0.kr rK ((CK.Cp k0 (k0.names++([]:List (List UInt8×Dop.DP))::[]))) k1 b3).bind fun y9=>
 ck (Au (I (CK.names y9.2.2.1).length -1))<|
 ck (0<=I (CK.names y9.2.2.1).length -1/\I (CK.names y9.2.2.1).length -1<=I (CK.names y9.2.2.1).length)<|
 Ao y9.1.1 (CK.Cp y9.2.2.1 (List.take (I (CK.names y9.2.2.1).length -1).toNat (CK.names y9.2.2.1))) y9.2.2.2.1)<|
 ci (t27=45) ((Ij.k b3 t1 k0 k1).bind CN)<|
 (CU.k 44 ((-1)) ((-1)) ((-1)) ((-1)) 0 [] k0 k1).bind CN
 ci (t27=37) ((JY.k b3 t1 k0 k1).bind CN)<|
 ci (t27=38) (ci (!(AP k0.gotos b3.text).isSome) ((CU.k 38 ((-1)) ((-1)) ((-1)) ((-1)) 0 b3.text ((CK.Zv k0 (CY k0.gotos b3.text t1))) k1).bind CN)<|
 (CU.k 38 ((-1)) ((-1)) ((-1)) ((-1)) 0 b3.text k0 k1).bind CN)<|
 ci (t27=39) (ck (Au ((AP k0.labels b3.text).getD (0:Int)+1))<|
 ci (1<(AP A1 b3.text).getD 0) ((A4.k 9 t1 ((CK.Q6 k0 A1)) k1).bind fun y6=>
 Ao y6.1.1.n y6.2.1 y6.2.2.1)<|
 (BV.kr rK b3.a ((CK.Q6 k0 A1)) k1).bind fun y6=>
 (CU.k 39 y6.1.1 ((-1)) ((-1)) ((-1)) 0 b3.text y6.2.1 y6.2.2.1).bind CN)<|
 ci (t27=40) ((B9.k b3.a k0 k1).bind fun y6=>
 ck (room 8 ((CK.RD y6.2.1).length+1))<|
 ck (Au (CK.Px y6.2.1+1))<|
 (BV.kr rK b3.b ((CK.Ku (CK.OJ y6.2.1 (CK.RD y6.2.1++([]:List (Int×Int))::[])) (CK.Px y6.2.1+1))) y6.2.2.1).bind fun y7=>
 ck (Au (CK.Px y7.2.1 -1))<|
 ck (Au (I (CK.RD y7.2.1).length -1))<|
 ck (0<=I (CK.RD y7.2.1).length -1/\I (CK.RD y7.2.1).length -1<=I (CK.RD y7.2.1).length)<|
 (CU.k 40 y6.1.1.n y7.1.1 ((-1)) ((-1)) 0 [] ((CK.Ku (CK.OJ y7.2.1 (List.take (I (CK.RD y7.2.1).length -1).toNat (CK.RD y7.2.1))) (CK.Px y7.2.1 -1))) y7.2.2.1).bind CN)<|
 ci (t27=41) (ci (t27=41) A2<|
 z1)<|
 ci (t27=42) A2<|
 z1
def BV.kS (rK:CM.T) (tK:BV.KT):BV.KT:=(LG.kB rK tK,LH.kB rK tK,())
def BV.kL (rK:CM.T) (n:Nat):BV.KT:=DA (BV.kS rK) n
def BV.k0 (rK:CM.T) (tK:BV.KT) (t1:Int) (k0:CK) (k1:CT):R2 Int CK CT:=
 (NZ.k t1 k0 k1).bind fun y2=>
 ci (!(CK.e y2.2.1=0)) (Ao (-1) y2.2.1 y2.2.2.1)<|
 ci (y2.1.1.kind=30) ((JX.k y2.1.1.a y2.2.1 y2.2.2.1).bind fun y5=>
 (CU.k 30 y5.1.1 ((-1)) ((-1)) ((-1)) 0 [] y5.2.1 y5.2.2.1).bind CN)<|
 ci (y2.1.1.kind=31) ((B9.k y2.1.1.a y2.2.1 y2.2.2.1).bind fun y6=>
 (BV.kr rK y2.1.1.b y6.2.1 y6.2.2.1).bind fun y7=>
 ci (0<=y2.1.1.c) ((BV.kr rK y2.1.1.c y7.2.1 y7.2.2.1).bind fun y9=>
 (CU.k 31 y6.1.1.n y7.1.1 y9.1.1 ((-1)) 0 [] y9.2.1 y9.2.2.1).bind CN)<|
 (CU.k 31 y6.1.1.n y7.1.1 ((-1)) ((-1)) 0 [] y7.2.1 y7.2.2.1).bind CN)<|
 ci (y2.1.1.kind=32) ((B9.k y2.1.1.a y2.2.1 y2.2.2.1).bind fun y7=>
 (Ga.kr rK y2.1.1.b y7.2.1 y7.2.2.1).bind fun y8=>
 (CU.k 32 y7.1.1.n y8.1.1 ((-1)) ((-1)) 0 [] y8.2.1 y8.2.2.1).bind CN)<|
 ci (y2.1.1.kind=33) ((Ga.kr rK y2.1.1.b y2.2.1 y2.2.2.1).bind fun y8=>
 (B9.k y2.1.1.a y8.2.1 y8.2.2.1).bind fun y9=>
 (CU.k 33 y9.1.1.n y8.1.1 ((-1)) ((-1)) 0 [] y9.2.1 y9.2.2.1).bind CN)<|
 ci (y2.1.1.kind=34) ((JX.k y2.1.1.a y2.2.1 y2.2.2.1).bind fun y9=>
 ci (0<=y2.1.1.b) ((B9.k y2.1.1.b y9.2.1 y9.2.2.1).bind fun y11=>
 (JX.k y2.1.1.c y11.2.1 y11.2.2.1).bind fun y12=>
 (Ga.kr rK y2.1.1.d y12.2.1 y12.2.2.1).bind fun y13=>
 (CU.k 34 y9.1.1 y11.1.1.n y12.1.1 y13.1.1 0 [] y13.2.1 y13.2.2.1).bind CN)<|
 (JX.k y2.1.1.c y9.2.1 y9.2.2.1).bind fun y11=>
 (Ga.kr rK y2.1.1.d y11.2.1 y11.2.2.1).bind fun y12=>
 (CU.k 34 y9.1.1 ((-1)) y11.1.1 y12.1.1 0 [] y12.2.1 y12.2.2.1).bind CN)<|
 ci (y2.1.1.kind=35) (ci (y2.1.1.kind=35) (tK.1 t1 y2.2.1 y2.2.2.1 y2.1.1)<|
 tK.2.1 t1 y2.1.1.kind y2.2.1 y2.2.2.1 y2.1.1)<|
 ci (y2.1.1.kind=36) (tK.1 t1 y2.2.1 y2.2.2.1 y2.1.1)<|
 tK.2.1 t1 y2.1.1.kind y2.2.1 y2.2.2.1 y2.1.1
def BV.kf (rK:CM.T) (t1:Int) (k0:CK) (k1:CT):R2 Int CK CT:=BV.k0 rK (BV.kL rK 1000000) t1 k0 k1
def Ga.kf (rK:CM.T) (n:Int) (k0:CK) (k1:CT):R2 Int CK CT:=
 ck (Au (k0.loops+1))<|
 ck (Au (k0.Px+1))<|
 (BV.kr rK n ((CK.Ku (CK.H2 k0 (k0.loops+1)) (k0.Px+1))) k1).bind fun y2=>
 ck (Au (CK.loops y2.2.1 -1))<|
 ck (Au (CK.Px y2.2.1 -1))<|
 Ao y2.1.1 (CK.Ku (CK.H2 y2.2.1 (CK.loops y2.2.1 -1)) (CK.Px y2.2.1 -1)) y2.2.2.1
def Gu.kf (rK:CM.T) (x:Dop.AU) (n:Int) (k0:CK) (k1:CT):R2 Int CK CT:=(Ae (S:=Dop.D4) prog 170 tb (CM.ct rK++[EH.Kc,A4.Kc,CU.Kc]) Gu.p).Fm 3000 1000000 Gu.p.sp (((),x,n,()),(k0,k1,()))
abbrev PE.T:Type:=List Int->List Int->Int->Int->CK->CT->Dop.AU->Option ((Int×Unit)×((Unit×Unit)×CK×CT×(Dop.AU×Unit)×Unit))
abbrev C0.KT:Type:=PE.T×Unit
def PE.kB (rK:CM.T) (tK:C0.KT):PE.T:=fun l t12 t13 t14 k1 k2 b3=>
 ci (t14<t13) (ck (0<=t14/\t14<I t12.length)<|
 ck (t14.toNat<t12.length)<|
 (BV.kr rK (List.getD t12 t14.toNat 0) k1 k2).bind fun y3=>
 ck (Cq none (room 8 (l.length+(y3.1.1::[]).length)))<|
 ck (Au (t14+1))<|
 tK.1 (l++y3.1.1::[]) t12 t13 (t14+1) y3.2.1 y3.2.2.1 b3)<|
 (Aa.k l k1 k2).bind fun y3=>
 (CU.k 43 y3.1.1 ((-1)) ((-1)) ((-1)) 0 [] y3.2.1 y3.2.2.1).bind fun y4=>
 some ((y4.1.1,()),(((),()),(y4.2.1,(y4.2.2.1,((b3,()),())))))
def C0.kS (rK:CM.T) (tK:C0.KT):C0.KT:=(PE.kB rK tK,())
def C0.kL (rK:CM.T) (n:Nat):C0.KT:=DA (C0.kS rK) n
def C0.k0 (rK:CM.T) (tK:C0.KT) (k1:CK) (k2:CT) (b3:Dop.AU):Option ((Int×Unit)×((Unit×Unit)×CK×CT×(Dop.AU×Unit)×Unit)):=
 (GG.k k1.t b3.a).bind fun y2=>
 tK.1 [] y2.1.1 (I y2.1.1.length) 0 k1 k2 b3
def C0.kf (rK:CM.T) (k1:CK) (k2:CT) (b3:Dop.AU):Option ((Int×Unit)×((Unit×Unit)×CK×CT×(Dop.AU×Unit)×Unit)):=C0.k0 rK (C0.kL rK 1000000) k1 k2 b3
def CM.kS (r:CM.T):CM.T:=(fun x=>BV.kf r x.1.2.1 x.2.1 x.2.2.1,fun x=>Ga.kf r x.1.2.1 x.2.1 x.2.2.1,fun x=>Gu.kf r x.1.2.1 x.1.2.2.1 x.2.1 x.2.2.1,fun x=>C0.kf r x.2.2.1 x.2.2.2.1 x.2.2.2.2.1.1,())
def CM.kR (n:Nat):CM.T:=DA CM.kS n
def BV.Kc (n:Nat):=kd 135 BV.p (CM.kR n).1
def BV.Lv:=BV.Kc FU
def BV.k:=BV.kr (CM.kR FU)
def Ga.Kc (n:Nat):=kd 168 Ga.p (CM.kR n).2.1
def Gu.Kc (n:Nat):=kd 170 Gu.p (CM.kR n).2.2.1
def C0.Kc (n:Nat):=kd 172 C0.p (CM.kR n).2.2.2.1
def CM.RY (n:Nat):List (Bp Dop.D4):=[BV.Kc n,Ga.Kc n,Gu.Kc n,C0.Kc n]
theorem CM.Ej: ∀ n,(BV.Kc n).Holds prog/\(Ga.Kc n).Holds prog/\(Gu.Kc n).Holds prog/\(C0.Kc n).Holds prog/\True
 | 0=>⟨AN AH BV.ok,AN AH Ga.ok,AN AH Gu.ok,AN AH C0.ok,trivial⟩
 | n+1=>by
  obtain ⟨h0,h1,h2,h3,_⟩:=CM.Ej n
  have hh: ∀ c∈CM.RY n,c.Holds prog:=(hc h0 (hc h1 (hc h2 (hc h3 hn))))
  exact ⟨GD AH (Ab hh (hc NZ.Kh (hc JX.Kh (hc CU.Kh (hc B9.ID (hc A4.Kh (hc JY.Kh (hc Ij.Kh hn)))))))) BV.ok (fun t x=>BV.k0 (CM.kR n) t x.1.2.1 x.2.1 x.2.2.1) (fun c=>(fun t1 k0 k1 b3=>c 27 BV.kH rfl ((t1,(),(),()),(k0,k1,((),()),(b3,()),())),fun t1 t27 k0 k1 b3=>c 30 BV.kI rfl ((t1,(),(),t27,()),(k0,k1,((),()),(b3,()),())),())) (BV.kS (CM.kR n)) (by kernel_rfl),
   kh AH (Ab hh hn) Ga.ok (by kernel_rfl),
   kh AH (Ab hh (hc EH.Kh (hc A4.Kh (hc CU.Kh hn)))) Gu.ok (by kernel_rfl),
   GD AH (Ab hh (hc GG.Kh (hc Aa.Kh (hc CU.Kh hn)))) C0.ok (fun t x=>C0.k0 (CM.kR n) t x.2.2.1 x.2.2.2.1 x.2.2.2.2.1.1) (fun c=>(fun l t12 t13 t14 k1 k2 b3=>c 3 C0.q3 rfl (((),l,t12,t13,t14,()),(((),()),k1,k2,(b3,()),())),())) (C0.kS (CM.kR n)) (by kernel_rfl),
   trivial⟩
theorem BV.ID:BV.Lv.Holds prog:=(CM.Ej FU).1
end
end Go.Proofs.Tryz
