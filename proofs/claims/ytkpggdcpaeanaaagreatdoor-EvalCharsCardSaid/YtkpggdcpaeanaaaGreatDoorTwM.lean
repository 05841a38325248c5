/-
 Functions in plain words (what their equations say), and their contracts. Written by a program.
-/
import Derived.Test.YtkpggdcpaeanaaaGreatDoorTwL
import Derived.Test.YtkpggdcpaeanaaaGreatDoorMo
set_option linter.all false
set_option maxRecDepth 100000
set_option maxHeartbeats 4000000
namespace Go.Proofs.Tryz
open Go Go.En
noncomputable section
def Fy.KE:Env Dop.D4:=Ac prog 130 tb [BZ.Nn,DX.Kc,Au.Kc,M0.Kc] Fy.p
def Fy.k (t1:List UInt8) (t2 t3:Int) (t4:Bool) (k0:CK) (k1:CT):kJ Dop.Da Bool CK CT:=Fy.KE.Ez 3000 1000000 Fy.p.sp (((),t1,t2,t3,t4,()),(k0,k1,()))
def Fy.Kc:=kd 130 Fy.p fun x=>Fy.k x.1.2.1 x.1.2.2.1 x.1.2.2.2.1 x.1.2.2.2.2.1 x.2.1 x.2.2.1
theorem Fy.Kh:Fy.Kc.Holds prog:=kh AH (hc BZ.IN (hc DX.Kh (hc Au.Kh (hc M0.Kh hn)))) Fy.ok (by kernel_rfl)
abbrev Ce.kr (r:Fx.T) (n:Int) (k0:CK) (k1:CT):On CK CT:=r.1 (((),n,()),(k0,k1,()))
abbrev PW.T:Type:=Dop.fi->Int->CK->CT->On CK CT
abbrev Ce.KT:Type:=PW.T×Unit
def PW.kB (rK:Fx.T) (tK:Ce.KT):PW.T:=fun t45 t46 k0 k1=>
 ci (t46<4) (ck (0<=t46/\t46<I 4)<|
 ci (0<=(t45.x0::t45.x1::t45.x2::t45.x3::[]).getD t46.toNat 0) ((Ce.kr rK ((t45.x0::t45.x1::t45.x2::t45.x3::[]).getD t46.toNat 0) k0 k1).bind fun y4=>
 ck (Az (t46+1))<|
 tK.1 t45 (t46+1) y4.2.1 y4.2.2.1)<|
 ck (Az (t46+1))<|
 tK.1 t45 (t46+1) k0 k1)<|
 aT k0 k1
def Ce.kS (rK:Fx.T) (tK:Ce.KT):Ce.KT:=(PW.kB rK tK,())
def Ce.kL (rK:Fx.T) (n:Nat):Ce.KT:=Cw (Ce.kS rK) n
def Ce.k0 (rK:Fx.T) (tK:Ce.KT) (n:Int) (k0:CK) (k1:CT):On CK CT:=
 (Cv.k n k0.t k0.num k0.funcs k0.globals k0.top k0.nodes k0.names k0.sigs k0.f k0.Fo k0.loops k0.Rb k0.QG k0.e k0.when k1).bind fun y2=>
 ci (y2.1.1.kind=3) (ci (y2.1.1.text=(38:UInt8)::[]) ((Cv.k y2.1.1.a (Dop.G2.mk y2.2.1.1 y2.2.1.2.1 y2.2.1.2.2.1) y2.2.1.2.2.2.2.1 y2.2.1.2.2.2.2.2.1 y2.2.1.2.2.2.2.2.2.1 y2.2.1.2.2.2.2.2.2.2.1 y2.2.1.2.2.2.2.2.2.2.2.1 y2.2.1.2.2.2.2.2.2.2.2.2.1 y2.2.1.2.2.2.2.2.2.2.2.2.2.1 (Dop.Eh.mk y2.2.1.2.2.2.2.2.2.2.2.2.2.2.2.1 y2.2.1.2.2.2.2.2.2.2.2.2.2.2.2.2.1 y2.2.1.2.2.2.2.2.2.2.2.2.2.2.2.2.2.1 y2.2.1.2.2.2.2.2.2.2.2.2.2.2.2.2.2.2.1 y2.2.1.2.2.2.2.2.2.2.2.2.2.2.2.2.2.2.2.1) y2.2.1.2.2.2.2.2.2.2.2.2.2.2.2.2.2.2.2.2.1 y2.2.1.2.2.2.2.2.2.2.2.2.2.2.2.2.2.2.2.2.2.2.2.1 y2.2.1.2.2.2.2.2.2.2.2.2.2.2.2.2.2.2.2.2.2.2.2.2.1 y2.2.1.2.2.2.2.2.2.2.2.2.2.2.2.2.2.2.2.2.2.2.2.2.2.1 y2.2.1.2.2.2.2.2.2.2.2.2.2.2.2.2.2.2.2.2.2.2.2.2.2.2.1 y2.2.1.2.2.2.2.2.2.2.2.2.2.2.2.2.2.2.2.2.2.2.2.2.2.2.2.1 y2.2.2.1).bind fun y5=>
 ci (y5.1.1.kind=2) ((Cv.k y2.1.1.a (Dop.G2.mk y5.2.1.1 y5.2.1.2.1 y5.2.1.2.2.1) y5.2.1.2.2.2.2.1 y5.2.1.2.2.2.2.2.1 y5.2.1.2.2.2.2.2.2.1 y5.2.1.2.2.2.2.2.2.2.1 y5.2.1.2.2.2.2.2.2.2.2.1 y5.2.1.2.2.2.2.2.2.2.2.2.1 y5.2.1.2.2.2.2.2.2.2.2.2.2.1 (Dop.Eh.mk y5.2.1.2.2.2.2.2.2.2.2.2.2.2.2.1 y5.2.1.2.2.2.2.2.2.2.2.2.2.2.2.2.1 y5.2.1.2.2.2.2.2.2.2.2.2.2.2.2.2.2.1 y5.2.1.2.2.2.2.2.2.2.2.2.2.2.2.2.2.2.1 y5.2.1.2.2.2.2.2.2.2.2.2.2.2.2.2.2.2.2.1) y5.2.1.2.2.2.2.2.2.2.2.2.2.2.2.2.2.2.2.2.1 y5.2.1.2.2.2.2.2.2.2.2.2.2.2.2.2.2.2.2.2.2.2.2.1 y5.2.1.2.2.2.2.2.2.2.2.2.2.2.2.2.2.2.2.2.2.2.2.2.1 y5.2.1.2.2.2.2.2.2.2.2.2.2.2.2.2.2.2.2.2.2.2.2.2.2.1 y5.2.1.2.2.2.2.2.2.2.2.2.2.2.2.2.2.2.2.2.2.2.2.2.2.2.1 y5.2.1.2.2.2.2.2.2.2.2.2.2.2.2.2.2.2.2.2.2.2.2.2.2.2.2.1 y5.2.2.1).bind fun y7=>
 ck (Az ((AN k0.taken y7.1.1.text).getD (0:Int)+1))<|
 tK.1 (Dop.fi.mk y2.1.1.a y2.1.1.b y2.1.1.c y2.1.1.d) 0 ((CK.FR (CK.Yj (CK.K5 (CK.Ob (CK.ID (CK.L3 (CK.eT (CK.ah (CK.I8 (CK.Ct (CK.EY (CK.Oc (CK.FF (CK.Jt (CK.NX (CK.kj k0 (Dop.G2.mk y7.2.1.1 y7.2.1.2.1 y7.2.1.2.2.1)) y7.2.1.2.2.2.2.1) y7.2.1.2.2.2.2.2.1) y7.2.1.2.2.2.2.2.2.1) y7.2.1.2.2.2.2.2.2.2.1) y7.2.1.2.2.2.2.2.2.2.2.1) y7.2.1.2.2.2.2.2.2.2.2.2.1) y7.2.1.2.2.2.2.2.2.2.2.2.2.1) (Cb k0.taken y7.1.1.text ((AN k0.taken y7.1.1.text).getD (0:Int)+1))) (Dop.Eh.mk y7.2.1.2.2.2.2.2.2.2.2.2.2.2.2.1 y7.2.1.2.2.2.2.2.2.2.2.2.2.2.2.2.1 y7.2.1.2.2.2.2.2.2.2.2.2.2.2.2.2.2.1 y7.2.1.2.2.2.2.2.2.2.2.2.2.2.2.2.2.2.1 y7.2.1.2.2.2.2.2.2.2.2.2.2.2.2.2.2.2.2.1)) y7.2.1.2.2.2.2.2.2.2.2.2.2.2.2.2.2.2.2.2.1) y7.2.1.2.2.2.2.2.2.2.2.2.2.2.2.2.2.2.2.2.2.2.2.1) y7.2.1.2.2.2.2.2.2.2.2.2.2.2.2.2.2.2.2.2.2.2.2.2.1) y7.2.1.2.2.2.2.2.2.2.2.2.2.2.2.2.2.2.2.2.2.2.2.2.2.1) y7.2.1.2.2.2.2.2.2.2.2.2.2.2.2.2.2.2.2.2.2.2.2.2.2.2.1) y7.2.1.2.2.2.2.2.2.2.2.2.2.2.2.2.2.2.2.2.2.2.2.2.2.2.2.1)) y7.2.2.1)<|
 tK.1 (Dop.fi.mk y2.1.1.a y2.1.1.b y2.1.1.c y2.1.1.d) 0 ((CK.FR (CK.Yj (CK.K5 (CK.Ob (CK.ID (CK.L3 (CK.eT (CK.I8 (CK.Ct (CK.EY (CK.Oc (CK.FF (CK.Jt (CK.NX (CK.kj k0 (Dop.G2.mk y5.2.1.1 y5.2.1.2.1 y5.2.1.2.2.1)) y5.2.1.2.2.2.2.1) y5.2.1.2.2.2.2.2.1) y5.2.1.2.2.2.2.2.2.1) y5.2.1.2.2.2.2.2.2.2.1) y5.2.1.2.2.2.2.2.2.2.2.1) y5.2.1.2.2.2.2.2.2.2.2.2.1) y5.2.1.2.2.2.2.2.2.2.2.2.2.1) (Dop.Eh.mk y5.2.1.2.2.2.2.2.2.2.2.2.2.2.2.1 y5.2.1.2.2.2.2.2.2.2.2.2.2.2.2.2.1 y5.2.1.2.2.2.2.2.2.2.2.2.2.2.2.2.2.1 y5.2.1.2.2.2.2.2.2.2.2.2.2.2.2.2.2.2.1 y5.2.1.2.2.2.2.2.2.2.2.2.2.2.2.2.2.2.2.1)) y5.2.1.2.2.2.2.2.2.2.2.2.2.2.2.2.2.2.2.2.1) y5.2.1.2.2.2.2.2.2.2.2.2.2.2.2.2.2.2.2.2.2.2.2.1) y5.2.1.2.2.2.2.2.2.2.2.2.2.2.2.2.2.2.2.2.2.2.2.2.1) y5.2.1.2.2.2.2.2.2.2.2.2.2.2.2.2.2.2.2.2.2.2.2.2.2.1) y5.2.1.2.2.2.2.2.2.2.2.2.2.2.2.2.2.2.2.2.2.2.2.2.2.2.1) y5.2.1.2.2.2.2.2.2.2.2.2.2.2.2.2.2.2.2.2.2.2.2.2.2.2.2.1)) y5.2.2.1)<|
 tK.1 (Dop.fi.mk y2.1.1.a y2.1.1.b y2.1.1.c y2.1.1.d) 0 ((CK.FR (CK.Yj (CK.K5 (CK.Ob (CK.ID (CK.L3 (CK.eT (CK.I8 (CK.Ct (CK.EY (CK.Oc (CK.FF (CK.Jt (CK.NX (CK.kj k0 (Dop.G2.mk y2.2.1.1 y2.2.1.2.1 y2.2.1.2.2.1)) y2.2.1.2.2.2.2.1) y2.2.1.2.2.2.2.2.1) y2.2.1.2.2.2.2.2.2.1) y2.2.1.2.2.2.2.2.2.2.1) y2.2.1.2.2.2.2.2.2.2.2.1) y2.2.1.2.2.2.2.2.2.2.2.2.1) y2.2.1.2.2.2.2.2.2.2.2.2.2.1) (Dop.Eh.mk y2.2.1.2.2.2.2.2.2.2.2.2.2.2.2.1 y2.2.1.2.2.2.2.2.2.2.2.2.2.2.2.2.1 y2.2.1.2.2.2.2.2.2.2.2.2.2.2.2.2.2.1 y2.2.1.2.2.2.2.2.2.2.2.2.2.2.2.2.2.2.1 y2.2.1.2.2.2.2.2.2.2.2.2.2.2.2.2.2.2.2.1)) y2.2.1.2.2.2.2.2.2.2.2.2.2.2.2.2.2.2.2.2.1) y2.2.1.2.2.2.2.2.2.2.2.2.2.2.2.2.2.2.2.2.2.2.2.1) y2.2.1.2.2.2.2.2.2.2.2.2.2.2.2.2.2.2.2.2.2.2.2.2.1) y2.2.1.2.2.2.2.2.2.2.2.2.2.2.2.2.2.2.2.2.2.2.2.2.2.1) y2.2.1.2.2.2.2.2.2.2.2.2.2.2.2.2.2.2.2.2.2.2.2.2.2.2.1) y2.2.1.2.2.2.2.2.2.2.2.2.2.2.2.2.2.2.2.2.2.2.2.2.2.2.2.1)) y2.2.2.1)<|
 tK.1 (Dop.fi.mk y2.1.1.a y2.1.1.b y2.1.1.c y2.1.1.d) 0 ((CK.FR (CK.Yj (CK.K5 (CK.Ob (CK.ID (CK.L3 (CK.eT (CK.I8 (CK.Ct (CK.EY (CK.Oc (CK.FF (CK.Jt (CK.NX (CK.kj k0 (Dop.G2.mk y2.2.1.1 y2.2.1.2.1 y2.2.1.2.2.1)) y2.2.1.2.2.2.2.1) y2.2.1.2.2.2.2.2.1) y2.2.1.2.2.2.2.2.2.1) y2.2.1.2.2.2.2.2.2.2.1) y2.2.1.2.2.2.2.2.2.2.2.1) y2.2.1.2.2.2.2.2.2.2.2.2.1) y2.2.1.2.2.2.2.2.2.2.2.2.2.1) (Dop.Eh.mk y2.2.1.2.2.2.2.2.2.2.2.2.2.2.2.1 y2.2.1.2.2.2.2.2.2.2.2.2.2.2.2.2.1 y2.2.1.2.2.2.2.2.2.2.2.2.2.2.2.2.2.1 y2.2.1.2.2.2.2.2.2.2.2.2.2.2.2.2.2.2.1 y2.2.1.2.2.2.2.2.2.2.2.2.2.2.2.2.2.2.2.1)) y2.2.1.2.2.2.2.2.2.2.2.2.2.2.2.2.2.2.2.2.1) y2.2.1.2.2.2.2.2.2.2.2.2.2.2.2.2.2.2.2.2.2.2.2.1) y2.2.1.2.2.2.2.2.2.2.2.2.2.2.2.2.2.2.2.2.2.2.2.2.1) y2.2.1.2.2.2.2.2.2.2.2.2.2.2.2.2.2.2.2.2.2.2.2.2.2.1) y2.2.1.2.2.2.2.2.2.2.2.2.2.2.2.2.2.2.2.2.2.2.2.2.2.2.1) y2.2.1.2.2.2.2.2.2.2.2.2.2.2.2.2.2.2.2.2.2.2.2.2.2.2.2.1)) y2.2.2.1
def Ce.kf (rK:Fx.T) (n:Int) (k0:CK) (k1:CT):On CK CT:=Ce.k0 rK (Ce.kL rK 1000000) n k0 k1
def Fx.kS (r:Fx.T):Fx.T:=(fun x=>Ce.kf r x.1.2.1 x.2.1 x.2.2.1,())
def Fx.kR (n:Nat):Fx.T:=Cw Fx.kS n
def Ce.Kc (n:Nat):=kd 129 Ce.p (Fx.kR n).1
def Ce.Nn:=Ce.Kc FU
def Ce.k:=Ce.kr (Fx.kR FU)
def Fx.Ry (n:Nat):List (Bw Dop.D4):=[Ce.Kc n]
theorem Fx.Et: ∀ n,(Ce.Kc n).Holds prog/\True
 | 0=>⟨AO AH Ce.ok,trivial⟩
 | n+1=>by
  obtain ⟨h0,_⟩:=Fx.Et n
  have hh: ∀ c∈Fx.Ry n,c.Holds prog:=(hc h0 hn)
  exact ⟨F4 AH (Ab hh (hc Cv.Kh hn)) Ce.ok (fun t x=>Ce.k0 (Fx.kR n) t x.1.2.1 x.2.1 x.2.2.1) (fun c=>(fun t45 t46 k0 k1=>c 4 Ce.q4 rfl (((),t45,t46,()),(k0,k1,())),())) (Ce.kS (Fx.kR n)) (by kernel_rfl),
   trivial⟩
theorem Ce.IN:Ce.Nn.Holds prog:=(Fx.Et FU).1
def HE.k (n:Int) (k0:CH) (k1:CT):R2 Dop.AU CH CT:=
 let A1:=Ah (Dop.AU.mk 0 (-1) (-1) (-1) (-1) [] 0 0 0) k0 k1
 ci (n<0) A1<|
 ci (I k0.t.nodes.length<=n) A1<|
 ck (0<=n/\n<I k0.t.nodes.length)<|
 Ah (List.getD k0.t.nodes n.toNat Dop.d5) k0 k1
def HE.Kc:=kd 74 HE.p fun x=>HE.k x.1.2.1 x.2.1 x.2.2.1
theorem HE.Kh:HE.Kc.Holds prog:=kh AH hn HE.ok (by kernel_rfl)
def Ca.k (e n:Int) (k0:CH) (k1:CT):R2 Dop.Ao CH CT:=
 let A1:=Dop.Ao.mk (-1) 1 0 0 false
 ci (k0.e=0) ((HE.k n k0 k1).bind fun y3=>
 Ah A1 (CH.FR (CH.Yj y3.2.1 e) y3.1.1.at_) y3.2.2.1)<|
 Ah A1 k0 k1
def Ca.Kc:=kd 123 Ca.p fun x=>Ca.k x.1.2.1 x.1.2.2.1 x.2.1 x.2.2.1
theorem Ca.Kh:Ca.Kc.Holds prog:=kh AH (hc HE.Kh hn) Ca.ok (by kernel_rfl)
abbrev LR.T:Type:=Int->Int->Int->CH->CT->R2 Int CH CT
abbrev Ja.T:Type:=Int->Int->Int->Int->Int->CH->CT->R2 Int CH CT
abbrev BN.KT:Type:=LR.T×Ja.T×Unit
def LR.kB (tK:BN.KT):LR.T:=fun t1 t2 t7 k0 k1=>
 let A1:=List.getD k0.t.types t7.toNat Dop.d6
 let A2:=List.getD k0.num A1.elem.toNat 0
 let z1:R2 Int CH CT:=
 ck (0<=t1/\t1<I k0.num.length)<|
 ck (t1.toNat<k0.num.length)<|
 Ah (List.getD k0.num t1.toNat 0) k0 k1
 ci (t7<=t1) (ci (t7<I k0.t.types.length) (ck (0<=t7/\t7<I k0.t.types.length)<|
 ci (A1.kind=4) (ck (0<=A1.elem/\A1.elem<I k0.num.length)<|
 ck (A1.elem.toNat<k0.num.length)<|
 (Is.k A2 k1).bind fun y5=>
 tK.2.1 t1 t2 t7 y5.1.1 y5.1.2.1 k0 y5.2.1)<|
 ci (A1.kind=5) (ck (0<=A1.elem/\A1.elem<I k0.num.length)<|
 ck (A1.elem.toNat<k0.num.length)<|
 (KM.k A2 (A1.n) k1).bind fun y6=>
 tK.2.1 t1 t2 t7 y6.1.1 y6.1.2.1 k0 y6.2.1)<|
 ci (A1.kind=6) ((Iu.k (A1.name) k1).bind fun y7=>
 tK.2.1 t1 t2 t7 y7.1.1 y7.1.2.1 k0 y7.2.1)<|
 tK.2.1 t1 t2 t7 t7 0 k0 k1)<|
 z1)<|
 z1
def Ja.kB (tK:BN.KT):Ja.T:=fun t1 t2 t7 t9 t10 k0 k1=>
 ci (!(t10=0)) ((Ca.k t10 t2 k0 k1).bind fun y3=>
 Ah 1 y3.2.1 y3.2.2.1)<|
 ck (Cu none (room 8 (k0.num.length+(t9::[]).length)))<|
 ck (Az (t7+1))<|
 tK.1 t1 t2 (t7+1) ((CH.NX k0 (k0.num++t9::[]))) k1
def BN.kS (tK:BN.KT):BN.KT:=(LR.kB tK,Ja.kB tK,())
def BN.kL (n:Nat):BN.KT:=Cw BN.kS n
def BN.k0 (tK:BN.KT) (t1 t2:Int) (k0:CH) (k1:CT):R2 Int CH CT:=
 tK.1 t1 t2 (I k0.num.length) k0 k1
def BN.k (t1 t2:Int) (k0:CH) (k1:CT):R2 Int CH CT:=BN.k0 (BN.kL 1000000) t1 t2 k0 k1
def BN.Kc:=kd 121 BN.p fun x=>BN.k x.1.2.1 x.1.2.2.1 x.2.1 x.2.2.1
theorem BN.Kh:BN.Kc.Holds prog:=F4 AH (hc Is.Kh (hc KM.Kh (hc Iu.Kh (hc Ca.Kh hn)))) BN.ok (fun t x=>BN.k0 t x.1.2.1 x.1.2.2.1 x.2.1 x.2.2.1) (fun c=>(fun t1 t2 t7 k0 k1=>c 2 BN.q2 rfl (((),t1,t2,t7,()),(k0,k1,())),fun t1 t2 t7 t9 t10 k0 k1=>c 13 BN.YT rfl (((),t1,t2,t7,t9,t10,()),(k0,k1,())),())) BN.kS (by kernel_rfl)
def Hi.KE:Env Dop.D4:=Ac prog 75 tb [GX.Kc,HE.Kc,BN.Kc,DV.Kc,Ca.Kc] Hi.p
def Hi.k (x:Dop.AU) (n:Int) (k0:CH) (k1:CT):On CH CT:=Hi.KE.Ez 3000 1000000 Hi.p.sp (((),x,n,()),(k0,k1,()))
def Hi.Kc:=kd 75 Hi.p fun x=>Hi.k x.1.2.1 x.1.2.2.1 x.2.1 x.2.2.1
theorem Hi.Kh:Hi.Kc.Holds prog:=kh AH (hc GX.Kh (hc HE.Kh (hc BN.Kh (hc DV.Kh (hc Ca.Kh hn))))) Hi.ok (by kernel_rfl)
def Fg.k (t:Int) (k0:CH) (k1:CT):R2 Int CH CT:=
 (Ep.k t k1).bind fun y2=>
 Ah y2.1.1.kind k0 y2.2.1
def Fg.Kc:=kd 127 Fg.p fun x=>Fg.k x.1.2.1 x.2.1 x.2.2.1
theorem Fg.Kh:Fg.Kc.Holds prog:=kh AH (hc Ep.Kh hn) Fg.ok (by kernel_rfl)
def HZ.k (t:Int) (k0:CH) (k1:CT):R2 Bool CH CT:=
 (Fg.k t k0 k1).bind fun y2=>
 ci (y2.1.1=1) (Ah true y2.2.1 y2.2.2.1)<|
 ci (y2.1.1=2) (Ah true y2.2.1 y2.2.2.1)<|
 Ah (decide (y2.1.1=3)) y2.2.1 y2.2.2.1
def HZ.Kc:=kd 125 HZ.p fun x=>HZ.k x.1.2.1 x.2.1 x.2.2.1
theorem HZ.Kh:HZ.Kc.Holds prog:=kh AH (hc Fg.Kh hn) HZ.ok (by kernel_rfl)
abbrev Ly.T:Type:=Int->Int->Int->CH->CT->Dop.AU->On CH CT
abbrev EE.KT:Type:=Ly.T×Unit
def Ly.kB (tK:EE.KT):Ly.T:=fun t6 t7 t13 k0 k1 b2=>
 ck ((0:Int)<=0/\0<I k0.names.length)<|
 ck (Int.toNat 0<k0.names.length)<|
 ck (Int.toNat 0<k0.names.length)<|
 ck (Cu none (room 40 (k0.globals.length+(Dop.Nl.mk b2.text k0.top t7 t13::[]).length)))<|
 ck (Az (k0.top+t7))<|
 aT (CH.Ct (CH.Oc (CH.FF k0 (k0.globals++Dop.Nl.mk b2.text k0.top t7 t13::[])) (k0.top+t7)) (k0.names.set (Int.toNat 0) (Cb (List.getD k0.names (Int.toNat 0) (([]:List (List UInt8×Dop.Da)))) b2.text (Dop.Da.mk 1 k0.top t6)))) k1
def EE.kS (tK:EE.KT):EE.KT:=(Ly.kB tK,())
def EE.kL (n:Nat):EE.KT:=Cw EE.kS n
def EE.k0 (tK:EE.KT) (t1:Dop.AU) (t2:Int) (k0:CH) (k1:CT):On CH CT:=
 (BN.k t1.Af t2 k0 k1).bind fun y2=>
 (BZ.k y2.1.1 y2.2.2.1).bind fun y3=>
 ck ((0:Int)<=0/\0<I (CH.names y2.2.1).length)<|
 ck (Int.toNat 0<(CH.names y2.2.1).length)<|
 ck (Int.toNat 0<(CH.names y2.2.1).length)<|
 ci (!(CH.e y2.2.1=0)) (aT y2.2.1 y3.2.1)<|
 ci ((AN (List.getD (CH.names y2.2.1) (Int.toNat 0) (([]:List (List UInt8×Dop.Da)))) t1.text).isSome) ((Ca.k 7 t2 y2.2.1 y3.2.1).bind gA)<|
 ci ((AN (CH.sigs y2.2.1) t1.text).isSome) ((Ca.k 7 t2 y2.2.1 y3.2.1).bind gA)<|
 ci (!y3.1.2.1) ((Ca.k 8 t2 y2.2.1 y3.2.1).bind gA)<|
 ci (!(t1.n=0)) ((HZ.k y2.1.1 y2.2.1 y3.2.1).bind fun y9=>
 ci (!y9.1.1) ((Ca.k 8 t2 y9.2.1 y9.2.2.1).bind gA)<|
 ck (Az (CH.top y9.2.1+y3.1.1))<|
 ci (4096<CH.top y9.2.1+y3.1.1) ((Ca.k 4 t2 y9.2.1 y9.2.2.1).bind gA)<|
 (EC.k t1.n).bind fun y12=>
 (Fg.k y2.1.1 y9.2.1 y9.2.2.1).bind fun y13=>
 ci (y13.1.1=3) (tK.1 y2.1.1 y3.1.1 (bits BinOp.and IntKind.i64 y12.1.1 255) y13.2.1 y13.2.2.1 t1)<|
 tK.1 y2.1.1 y3.1.1 y12.1.1 y13.2.1 y13.2.2.1 t1)<|
 ck (Az (CH.top y2.2.1+y3.1.1))<|
 ci (4096<CH.top y2.2.1+y3.1.1) ((Ca.k 4 t2 y2.2.1 y3.2.1).bind gA)<|
 (EC.k t1.n).bind fun y10=>
 (Fg.k y2.1.1 y2.2.1 y3.2.1).bind fun y11=>
 ci (y11.1.1=3) (tK.1 y2.1.1 y3.1.1 (bits BinOp.and IntKind.i64 y10.1.1 255) y11.2.1 y11.2.2.1 t1)<|
 tK.1 y2.1.1 y3.1.1 y10.1.1 y11.2.1 y11.2.2.1 t1
def EE.k (t1:Dop.AU) (t2:Int) (k0:CH) (k1:CT):On CH CT:=EE.k0 (EE.kL 1000000) t1 t2 k0 k1
def EE.Kc:=kd 76 EE.p fun x=>EE.k x.1.2.1 x.1.2.2.1 x.2.1 x.2.2.1
theorem EE.Kh:EE.Kc.Holds prog:=F4 AH (hc BN.Kh (hc BZ.IN (hc Ca.Kh (hc HZ.Kh (hc EC.Kh (hc Fg.Kh hn)))))) EE.ok (fun t x=>EE.k0 t x.1.2.1 x.1.2.2.1 x.2.1 x.2.2.1) (fun c=>(fun t6 t7 t13 k0 k1 b2=>c 15 EE.bf rfl (((),(),t6,t7,t13,()),(k0,k1,(b2,()),())),())) EE.kS (by kernel_rfl)
abbrev Pq.T:Type:=Int->List Int->CH->CT->Dop.AU->List Int->Int->On CH CT
abbrev Lz.T:Type:=Int->List Int->Int->Int->CH->CT->Dop.AU->List Int->Int->On CH CT
abbrev DZ.KT:Type:=Pq.T×Lz.T×Unit
def Pq.kB (tK:DZ.KT):Pq.T:=fun t2 t11 k0 k1 b2 b3_0 b3_1=>
 let A1:=Ca.k 4 t2 k0 k1
 ci (k0.e=0) (ci (6<I t11.length) (A1.bind fun y4=>
 tK.2.1 t2 t11 (I t11.length) 0 y4.2.1 y4.2.2.1 b2 b3_0 b3_1)<|
 ci (I k0.sigs.length=64) (A1.bind fun y5=>
 tK.2.1 t2 t11 (I t11.length) 0 y5.2.1 y5.2.2.1 b2 b3_0 b3_1)<|
 tK.2.1 t2 t11 (I t11.length) 0 k0 k1 b2 b3_0 b3_1)<|
 tK.2.1 t2 t11 (I t11.length) 0 k0 k1 b2 b3_0 b3_1
def Lz.kB (tK:DZ.KT):Lz.T:=fun t2 t85 t86 t87 k0 k1 b2 b3_0 b3_1=>
 let A2:=List.getD t85 t87.toNat 0
 let A1:=CH.I8 k0 (Cb k0.sigs b2.text (Dop.QF.mk b3_0 b3_1))
 ci (t87<t86) (ck (0<=t87/\t87<I t85.length)<|
 ck (t87.toNat<t85.length)<|
 (HE.k A2 k0 k1).bind fun y3=>
 (BN.k y3.1.1.Af A2 y3.2.1 y3.2.2.1).bind fun y4=>
 ci (CH.e y4.2.1=0) ((DX.k y4.1.1 y4.2.2.1).bind fun y6=>
 ci (!y6.1.1) ((Ca.k 8 A2 y4.2.1 y6.2.1).bind fun y8=>
 ck (Cu none (room 8 (b3_0.length+(y4.1.1::[]).length)))<|
 ck (Az (t87+1))<|
 tK.2.1 t2 t85 t86 (t87+1) y8.2.1 y8.2.2.1 b2 (b3_0++y4.1.1::[]) b3_1)<|
 ck (Cu none (room 8 (b3_0.length+(y4.1.1::[]).length)))<|
 ck (Az (t87+1))<|
 tK.2.1 t2 t85 t86 (t87+1) y4.2.1 y6.2.1 b2 (b3_0++y4.1.1::[]) b3_1)<|
 ck (Cu none (room 8 (b3_0.length+(y4.1.1::[]).length)))<|
 ck (Az (t87+1))<|
 tK.2.1 t2 t85 t86 (t87+1) y4.2.1 y4.2.2.1 b2 (b3_0++y4.1.1::[]) b3_1)<|
 ci (k0.e=0) (ci (!(b3_1=0)) ((DX.k b3_1 k1).bind fun y5=>
 ci (!y5.1.1) ((Ca.k 8 t2 k0 y5.2.1).bind fun y7=>
 aT (CH.I8 y7.2.1 (Cb (CH.sigs y7.2.1) b2.text (Dop.QF.mk b3_0 b3_1))) y7.2.2.1)<|
 aT A1 y5.2.1)<|
 aT A1 k1)<|
 aT A1 k1
def DZ.kS (tK:DZ.KT):DZ.KT:=(Pq.kB tK,Lz.kB tK,())
def DZ.kL (n:Nat):DZ.KT:=Cw DZ.kS n
def DZ.k0 (tK:DZ.KT) (t1:Dop.AU) (t2:Int) (k0:CH) (k1:CT):On CH CT:=
 (BN.k t1.Af t2 k0 k1).bind fun y2=>
 ck ((0:Int)<=0/\0<I (CH.names y2.2.1).length)<|
 ck (Int.toNat 0<(CH.names y2.2.1).length)<|
 ck (Int.toNat 0<(CH.names y2.2.1).length)<|
 (GX.k (CH.t y2.2.1) t1.a).bind fun y3=>
 ci (CH.e y2.2.1=0) (ci ((AN (CH.sigs y2.2.1) t1.text).isSome) ((Ca.k 7 t2 y2.2.1 y2.2.2.1).bind fun y6=>
 tK.1 t2 y3.1.1 y6.2.1 y6.2.2.1 t1 [] y2.1.1)<|
 ci ((AN (List.getD (CH.names y2.2.1) (Int.toNat 0) (([]:List (List UInt8×Dop.Da)))) t1.text).isSome) ((Ca.k 7 t2 y2.2.1 y2.2.2.1).bind fun y7=>
 tK.1 t2 y3.1.1 y7.2.1 y7.2.2.1 t1 [] y2.1.1)<|
 tK.1 t2 y3.1.1 y2.2.1 y2.2.2.1 t1 [] y2.1.1)<|
 tK.1 t2 y3.1.1 y2.2.1 y2.2.2.1 t1 [] y2.1.1
def DZ.k (t1:Dop.AU) (t2:Int) (k0:CH) (k1:CT):On CH CT:=DZ.k0 (DZ.kL 1000000) t1 t2 k0 k1
def DZ.Kc:=kd 77 DZ.p fun x=>DZ.k x.1.2.1 x.1.2.2.1 x.2.1 x.2.2.1
theorem DZ.Kh:DZ.Kc.Holds prog:=F4 AH (hc BN.Kh (hc GX.Kh (hc Ca.Kh (hc HE.Kh (hc DX.Kh hn))))) DZ.ok (fun t x=>DZ.k0 t x.1.2.1 x.1.2.2.1 x.2.1 x.2.2.1) (fun c=>(fun t2 t11 k0 k1 b2 b3_0 b3_1=>c 7 DZ.q7 rfl (((),t2,(),(),t11,()),(k0,k1,(b2,()),(b3_0,b3_1,()),())),fun t2 t85 t86 t87 k0 k1 b2 b3_0 b3_1=>c 10 DZ.VW rfl (((),t2,(),(),t85,t86,t87,()),(k0,k1,(b2,()),(b3_0,b3_1,()),())),())) DZ.kS (by kernel_rfl)
def Jc.k (n:Int) (k0:CK) (k1:CT):R2 Int CK CT:=
 ci (n<0) (Ah (-1) k0 k1)<|
 (A9.k n k0 k1).bind fun y3=>
 Ah y3.1.1.n y3.2.1 y3.2.2.1
def Jc.Kc:=kd 166 Jc.p fun x=>Jc.k x.1.2.1 x.2.1 x.2.2.1
theorem Jc.Kh:Jc.Kc.Holds prog:=kh AH (hc A9.IN hn) Jc.ok (by kernel_rfl)
def Mt.k (x:Dop.AU) (n:Int) (k0:CK) (k1:CT):R2 Int CK CT:=
 ci (x.a<0) ((Bn.k 37 ((-1)) ((-1)) ((-1)) ((-1)) 0 [] k0 k1).bind Bp)<|
 (CE.k x.a k0 k1).bind fun y3=>
 ci (CK.e y3.2.1=0) (ci (CK.Fo y3.2.1=0) ((Au.k 8 n y3.2.1 y3.2.2.1).bind fun y6=>
 Ah y6.1.1.n y6.2.1 y6.2.2.1)<|
 (BR.k y3.1.1 (CK.Fo y3.2.1) n false y3.2.1 y3.2.2.1).bind fun y6=>
 (Bn.k 37 y6.1.1 ((-1)) ((-1)) ((-1)) 0 [] y6.2.1 y6.2.2.1).bind Bp)<|
 (BR.k y3.1.1 (CK.Fo y3.2.1) n false y3.2.1 y3.2.2.1).bind fun y5=>
 (Bn.k 37 y5.1.1 ((-1)) ((-1)) ((-1)) 0 [] y5.2.1 y5.2.2.1).bind Bp
def Mt.Kc:=kd 169 Mt.p fun x=>Mt.k x.1.2.1 x.1.2.2.1 x.2.1 x.2.2.1
theorem Mt.Kh:Mt.Kc.Holds prog:=kh AH (hc Bn.Kh (hc CE.IN (hc Au.Kh (hc BR.Kh hn)))) Mt.ok (by kernel_rfl)
def Jd.k (t1:Dop.AU) (t2:Int) (k0:CK) (k1:CT):R2 Int CK CT:=
 let A1:=Dop.Ao.mk (-1) 1 0 0 true
 (C6.k t1.Af t2 k0 k1).bind fun y2=>
 ci (0<=t1.a) ((CE.k t1.a y2.2.1 y2.2.2.1).bind fun y4=>
 (Fy.k t1.text y2.1.1 t2 false y4.2.1 y4.2.2.1).bind fun y5=>
 ci (!y5.1.2.1) (Ah (-1) y5.2.1 y5.2.2.1)<|
 (DX.k y2.1.1 y5.2.2.1).bind fun y7=>
 ci (!y7.1.1) (ci (0<=t1.a) ((Au.k 8 t2 y5.2.1 y7.2.1).bind fun y10=>
 Ah y10.1.1.n y10.2.1 y10.2.2.1)<|
 (Bn.k 44 ((-1)) ((-1)) ((-1)) ((-1)) 0 [] y5.2.1 y7.2.1).bind Bp)<|
 ci (t1.a<0) ((ED.k 0 y5.2.1 y7.2.1).bind fun y10=>
 ci (y5.1.1.kind=3) ((FM.k y5.1.1 y10.2.1 y10.2.2.1).bind fun y12=>
 (BR.k (Dop.Ao.mk y10.1.1 y4.1.1.CM y4.1.1.left y4.1.1.at_ y4.1.1.zero) y2.1.1 t2 false y12.2.1 y12.2.2.1).bind fun y13=>
 (EP.k (Dop.Ao.mk 0 y2.1.1 2 y12.1.1 false) y13.1.1 y13.2.1 y13.2.2.1).bind fun y14=>
 (Bn.k 30 y14.1.1 ((-1)) ((-1)) ((-1)) 0 [] y14.2.1 y14.2.2.1).bind Bp)<|
 (BR.k (Dop.Ao.mk y10.1.1 y4.1.1.CM y4.1.1.left y4.1.1.at_ y4.1.1.zero) y2.1.1 t2 false y10.2.1 y10.2.2.1).bind fun y12=>
 (EP.k (Dop.Ao.mk 0 y2.1.1 1 y5.1.1.n false) y12.1.1 y12.2.1 y12.2.2.1).bind fun y13=>
 (Bn.k 30 y13.1.1 ((-1)) ((-1)) ((-1)) 0 [] y13.2.1 y13.2.2.1).bind Bp)<|
 ci (y5.1.1.kind=3) ((FM.k y5.1.1 y5.2.1 y7.2.1).bind fun y11=>
 (BR.k y4.1.1 y2.1.1 t2 false y11.2.1 y11.2.2.1).bind fun y12=>
 (EP.k (Dop.Ao.mk 0 y2.1.1 2 y11.1.1 false) y12.1.1 y12.2.1 y12.2.2.1).bind fun y13=>
 (Bn.k 30 y13.1.1 ((-1)) ((-1)) ((-1)) 0 [] y13.2.1 y13.2.2.1).bind Bp)<|
 (BR.k y4.1.1 y2.1.1 t2 false y5.2.1 y7.2.1).bind fun y11=>
 (EP.k (Dop.Ao.mk 0 y2.1.1 1 y5.1.1.n false) y11.1.1 y11.2.1 y11.2.2.1).bind fun y12=>
 (Bn.k 30 y12.1.1 ((-1)) ((-1)) ((-1)) 0 [] y12.2.1 y12.2.2.1).bind Bp)<|
 (Fy.k t1.text y2.1.1 t2 false y2.2.1 y2.2.2.1).bind fun y4=>
 ci (!y4.1.2.1) (Ah (-1) y4.2.1 y4.2.2.1)<|
 (DX.k y2.1.1 y4.2.2.1).bind fun y6=>
 ci (!y6.1.1) (ci (0<=t1.a) ((Au.k 8 t2 y4.2.1 y6.2.1).bind fun y9=>
 Ah y9.1.1.n y9.2.1 y9.2.2.1)<|
 (Bn.k 44 ((-1)) ((-1)) ((-1)) ((-1)) 0 [] y4.2.1 y6.2.1).bind Bp)<|
 ci (t1.a<0) ((ED.k 0 y4.2.1 y6.2.1).bind fun y9=>
 ci (y4.1.1.kind=3) ((FM.k y4.1.1 y9.2.1 y9.2.2.1).bind fun y11=>
 (BR.k (Dop.Ao.mk y9.1.1 1 0 0 true) y2.1.1 t2 false y11.2.1 y11.2.2.1).bind fun y12=>
 (EP.k (Dop.Ao.mk 0 y2.1.1 2 y11.1.1 false) y12.1.1 y12.2.1 y12.2.2.1).bind fun y13=>
 (Bn.k 30 y13.1.1 ((-1)) ((-1)) ((-1)) 0 [] y13.2.1 y13.2.2.1).bind Bp)<|
 (BR.k (Dop.Ao.mk y9.1.1 1 0 0 true) y2.1.1 t2 false y9.2.1 y9.2.2.1).bind fun y11=>
 (EP.k (Dop.Ao.mk 0 y2.1.1 1 y4.1.1.n false) y11.1.1 y11.2.1 y11.2.2.1).bind fun y12=>
 (Bn.k 30 y12.1.1 ((-1)) ((-1)) ((-1)) 0 [] y12.2.1 y12.2.2.1).bind Bp)<|
 ci (y4.1.1.kind=3) ((FM.k y4.1.1 y4.2.1 y6.2.1).bind fun y10=>
 (BR.k A1 y2.1.1 t2 false y10.2.1 y10.2.2.1).bind fun y11=>
 (EP.k (Dop.Ao.mk 0 y2.1.1 2 y10.1.1 false) y11.1.1 y11.2.1 y11.2.2.1).bind fun y12=>
 (Bn.k 30 y12.1.1 ((-1)) ((-1)) ((-1)) 0 [] y12.2.1 y12.2.2.1).bind Bp)<|
 (BR.k A1 y2.1.1 t2 false y4.2.1 y6.2.1).bind fun y10=>
 (EP.k (Dop.Ao.mk 0 y2.1.1 1 y4.1.1.n false) y10.1.1 y10.2.1 y10.2.2.1).bind fun y11=>
 (Bn.k 30 y11.1.1 ((-1)) ((-1)) ((-1)) 0 [] y11.2.1 y11.2.2.1).bind Bp
def Jd.Kc:=kd 173 Jd.p fun x=>Jd.k x.1.2.1 x.1.2.2.1 x.2.1 x.2.2.1
theorem Jd.Kh:Jd.Kc.Holds prog:=kh AH (hc C6.Kh (hc CE.IN (hc Fy.Kh (hc DX.Kh (hc Au.Kh (hc Bn.Kh (hc ED.Kh (hc FM.Kh (hc BR.Kh (hc EP.Kh hn)))))))))) Jd.ok (by kernel_rfl)
abbrev Ba.kr (r:CU.T) (t1:Int) (k0:CK) (k1:CT):R2 Int CK CT:=r.1 (((),t1,()),(k0,k1,()))
abbrev Gp.kr (r:CU.T) (n:Int) (k0:CK) (k1:CT):R2 Int CK CT:=r.2.1 (((),n,()),(k0,k1,()))
abbrev HA.kr (r:CU.T) (x:Dop.AU) (n:Int) (k0:CK) (k1:CT):R2 Int CK CT:=r.2.2.1 (((),x,n,()),(k0,k1,()))
abbrev C7.kr (r:CU.T) (k1:CK) (k2:CT) (b3:Dop.AU):Option ((Int×Unit)×((Unit×Unit)×CK×CT×(Dop.AU×Unit)×Unit)):=r.2.2.2.1 (((),(),()),(((),()),k1,k2,(b3,()),()))
abbrev LV.T:Type:=Int->CK->CT->Dop.AU->R2 Int CK CT
abbrev LW.T:Type:=Int->Int->CK->CT->Dop.AU->R2 Int CK CT
abbrev Ba.KT:Type:=LV.T×LW.T×Unit
def LV.kB (rK:CU.T) (tK:Ba.KT):LV.T:=fun t1 k0 k1 b3=>
 let A1:=Bn.k b3.kind ((-1)) ((-1)) ((-1)) ((-1)) 0 [] k0 k1
 let z1:R2 Int CK CT:=
 A1.bind Bp
 ci (b3.kind=35) (ci (k0.QG=0) ((Au.k 9 t1 k0 k1).bind fun y4=>
 Ah y4.1.1.n y4.2.1 y4.2.2.1)<|
 ci (b3.kind=36) (ci (k0.loops=0) ((Au.k 9 t1 k0 k1).bind fun y6=>
 Ah y6.1.1.n y6.2.1 y6.2.2.1)<|
 A1.bind Bp)<|
 z1)<|
 ci (b3.kind=36) (ci (k0.loops=0) ((Au.k 9 t1 k0 k1).bind fun y5=>
 Ah y5.1.1.n y5.2.1 y5.2.2.1)<|
 z1)<|
 A1.bind Bp
def LW.kB (rK:CU.T) (tK:Ba.KT):LW.T:=fun t1 t27 k0 k1 b3=>
 let A2:=(HA.kr rK b3 t1 k0 k1).bind Bp
 let A1:=Cb k0.labels b3.text ((AN k0.labels b3.text).getD (0:Int)+1)
 let z1:R2 Int CK CT:=
 ci (t27=43) (ck (room 8 (k0.names.length+1))<|
 (C7.kr rK ((CK.Ct k0 (k0.names++([]:List (List UInt8×Dop.Da))::[]))) k1 b3).bind fun y9=>
 ck (Az (I (CK.names y9.2.2.1).length -1))<|
 ck (0<=I (CK.names y9.2.2.1).length -1/\I (CK.names y9.2.2.1).length -1<=I (CK.names y9.2.2.1).length)<|
 Ah y9.1.1 (CK.Ct y9.2.2.1 (List.take (I (CK.names y9.2.2.1).length -1).toNat (CK.names y9.2.2.1))) y9.2.2.2.1)<|
 ci (t27=45) ((Jd.k b3 t1 k0 k1).bind Bp)<|
 (Bn.k 44 ((-1)) ((-1)) ((-1)) ((-1)) 0 [] k0 k1).bind Bp
 ci (t27=37) ((Mt.k b3 t1 k0 k1).bind Bp)<|
 ci (t27=38) (ci (!(AN k0.gotos b3.text).isSome) ((Bn.k 38 ((-1)) ((-1)) ((-1)) ((-1)) 0 b3.text ((CK.ae k0 (Cb k0.gotos b3.text t1))) k1).bind Bp)<|
 (Bn.k 38 ((-1)) ((-1)) ((-1)) ((-1)) 0 b3.text k0 k1).bind Bp)<|
 ci (t27=39) (ck (Az ((AN k0.labels b3.text).getD (0:Int)+1))<|
 ci (1<(AN A1 b3.text).getD 0) ((Au.k 9 t1 ((CK.RU k0 A1)) k1).bind fun y6=>
 Ah y6.1.1.n y6.2.1 y6.2.2.1)<|
 (Ba.kr rK b3.a ((CK.RU k0 A1)) k1).bind fun y6=>
 (Bn.k 39 y6.1.1 ((-1)) ((-1)) ((-1)) 0 b3.text y6.2.1 y6.2.2.1).bind Bp)<|
 ci (t27=40) ((CE.k b3.a k0 k1).bind fun y6=>
 ck (room 8 ((CK.Rb y6.2.1).length+1))<|
 ck (Az (CK.QG y6.2.1+1))<|
 (Ba.kr rK b3.b ((CK.K5 (CK.Ob y6.2.1 (CK.Rb y6.2.1++([]:List (Int×Int))::[])) (CK.QG y6.2.1+1))) y6.2.2.1).bind fun y7=>
 ck (Az (CK.QG y7.2.1 -1))<|
 ck (Az (I (CK.Rb y7.2.1).length -1))<|
 ck (0<=I (CK.Rb y7.2.1).length -1/\I (CK.Rb y7.2.1).length -1<=I (CK.Rb y7.2.1).length)<|
 (Bn.k 40 y6.1.1.n y7.1.1 ((-1)) ((-1)) 0 [] ((CK.K5 (CK.Ob y7.2.1 (List.take (I (CK.Rb y7.2.1).length -1).toNat (CK.Rb y7.2.1))) (CK.QG y7.2.1 -1))) y7.2.2.1).bind Bp)<|
 ci (t27=41) (ci (t27=41) A2<|
 z1)<|
 ci (t27=42) A2<|
 z1
def Ba.kS (rK:CU.T) (tK:Ba.KT):Ba.KT:=(LV.kB rK tK,LW.kB rK tK,())
def Ba.kL (rK:CU.T) (n:Nat):Ba.KT:=Cw (Ba.kS rK) n
def Ba.k0 (rK:CU.T) (tK:Ba.KT) (t1:Int) (k0:CK) (k1:CT):R2 Int CK CT:=
 (Np.k t1 k0 k1).bind fun y2=>
 ci (!(CK.e y2.2.1=0)) (Ah (-1) y2.2.1 y2.2.2.1)<|
 ci (y2.1.1.kind=30) ((Jc.k y2.1.1.a y2.2.1 y2.2.2.1).bind fun y5=>
 (Bn.k 30 y5.1.1 ((-1)) ((-1)) ((-1)) 0 [] y5.2.1 y5.2.2.1).bind Bp)<|
 ci (y2.1.1.kind=31) ((CE.k y2.1.1.a y2.2.1 y2.2.2.1).bind fun y6=>
 (Ba.kr rK y2.1.1.b y6.2.1 y6.2.2.1).bind fun y7=>
 ci (0<=y2.1.1.c) ((Ba.kr rK y2.1.1.c y7.2.1 y7.2.2.1).bind fun y9=>
 (Bn.k 31 y6.1.1.n y7.1.1 y9.1.1 ((-1)) 0 [] y9.2.1 y9.2.2.1).bind Bp)<|
 (Bn.k 31 y6.1.1.n y7.1.1 ((-1)) ((-1)) 0 [] y7.2.1 y7.2.2.1).bind Bp)<|
 ci (y2.1.1.kind=32) ((CE.k y2.1.1.a y2.2.1 y2.2.2.1).bind fun y7=>
 (Gp.kr rK y2.1.1.b y7.2.1 y7.2.2.1).bind fun y8=>
 (Bn.k 32 y7.1.1.n y8.1.1 ((-1)) ((-1)) 0 [] y8.2.1 y8.2.2.1).bind Bp)<|
 ci (y2.1.1.kind=33) ((Gp.kr rK y2.1.1.b y2.2.1 y2.2.2.1).bind fun y8=>
 (CE.k y2.1.1.a y8.2.1 y8.2.2.1).bind fun y9=>
 (Bn.k 33 y9.1.1.n y8.1.1 ((-1)) ((-1)) 0 [] y9.2.1 y9.2.2.1).bind Bp)<|
 ci (y2.1.1.kind=34) ((Jc.k y2.1.1.a y2.2.1 y2.2.2.1).bind fun y9=>
 ci (0<=y2.1.1.b) ((CE.k y2.1.1.b y9.2.1 y9.2.2.1).bind fun y11=>
 (Jc.k y2.1.1.c y11.2.1 y11.2.2.1).bind fun y12=>
 (Gp.kr rK y2.1.1.d y12.2.1 y12.2.2.1).bind fun y13=>
 (Bn.k 34 y9.1.1 y11.1.1.n y12.1.1 y13.1.1 0 [] y13.2.1 y13.2.2.1).bind Bp)<|
 (Jc.k y2.1.1.c y9.2.1 y9.2.2.1).bind fun y11=>
 (Gp.kr rK y2.1.1.d y11.2.1 y11.2.2.1).bind fun y12=>
 (Bn.k 34 y9.1.1 ((-1)) y11.1.1 y12.1.1 0 [] y12.2.1 y12.2.2.1).bind Bp)<|
 ci (y2.1.1.kind=35) (ci (y2.1.1.kind=35) (tK.1 t1 y2.2.1 y2.2.2.1 y2.1.1)<|
 tK.2.1 t1 y2.1.1.kind y2.2.1 y2.2.2.1 y2.1.1)<|
 ci (y2.1.1.kind=36) (tK.1 t1 y2.2.1 y2.2.2.1 y2.1.1)<|
 tK.2.1 t1 y2.1.1.kind y2.2.1 y2.2.2.1 y2.1.1
def Ba.kf (rK:CU.T) (t1:Int) (k0:CK) (k1:CT):R2 Int CK CT:=Ba.k0 rK (Ba.kL rK 1000000) t1 k0 k1
def Gp.kf (rK:CU.T) (n:Int) (k0:CK) (k1:CT):R2 Int CK CT:=
 ck (Az (k0.loops+1))<|
 ck (Az (k0.QG+1))<|
 (Ba.kr rK n ((CK.K5 (CK.ID k0 (k0.loops+1)) (k0.QG+1))) k1).bind fun y2=>
 ck (Az (CK.loops y2.2.1 -1))<|
 ck (Az (CK.QG y2.2.1 -1))<|
 Ah y2.1.1 (CK.K5 (CK.ID y2.2.1 (CK.loops y2.2.1 -1)) (CK.QG y2.2.1 -1)) y2.2.2.1
def HA.kf (rK:CU.T) (x:Dop.AU) (n:Int) (k0:CK) (k1:CT):R2 Int CK CT:=(Ac (S:=Dop.D4) prog 170 tb (CU.ct rK++[EC.Kc,Au.Kc,Bn.Kc]) HA.p).Ez 3000 1000000 HA.p.sp (((),x,n,()),(k0,k1,()))
abbrev PX.T:Type:=List Int->List Int->Int->Int->CK->CT->Dop.AU->Option ((Int×Unit)×((Unit×Unit)×CK×CT×(Dop.AU×Unit)×Unit))
abbrev C7.KT:Type:=PX.T×Unit
def PX.kB (rK:CU.T) (tK:C7.KT):PX.T:=fun l t12 t13 t14 k1 k2 b3=>
 ci (t14<t13) (ck (0<=t14/\t14<I t12.length)<|
 ck (t14.toNat<t12.length)<|
 (Ba.kr rK (List.getD t12 t14.toNat 0) k1 k2).bind fun y3=>
 ck (Cu none (room 8 (l.length+(y3.1.1::[]).length)))<|
 ck (Az (t14+1))<|
 tK.1 (l++y3.1.1::[]) t12 t13 (t14+1) y3.2.1 y3.2.2.1 b3)<|
 (Aa.k l k1 k2).bind fun y3=>
 (Bn.k 43 y3.1.1 ((-1)) ((-1)) ((-1)) 0 [] y3.2.1 y3.2.2.1).bind fun y4=>
 some ((y4.1.1,()),(((),()),(y4.2.1,(y4.2.2.1,((b3,()),())))))
def C7.kS (rK:CU.T) (tK:C7.KT):C7.KT:=(PX.kB rK tK,())
def C7.kL (rK:CU.T) (n:Nat):C7.KT:=Cw (C7.kS rK) n
def C7.k0 (rK:CU.T) (tK:C7.KT) (k1:CK) (k2:CT) (b3:Dop.AU):Option ((Int×Unit)×((Unit×Unit)×CK×CT×(Dop.AU×Unit)×Unit)):=
 (GX.k k1.t b3.a).bind fun y2=>
 tK.1 [] y2.1.1 (I y2.1.1.length) 0 k1 k2 b3
def C7.kf (rK:CU.T) (k1:CK) (k2:CT) (b3:Dop.AU):Option ((Int×Unit)×((Unit×Unit)×CK×CT×(Dop.AU×Unit)×Unit)):=C7.k0 rK (C7.kL rK 1000000) k1 k2 b3
def CU.kS (r:CU.T):CU.T:=(fun x=>Ba.kf r x.1.2.1 x.2.1 x.2.2.1,fun x=>Gp.kf r x.1.2.1 x.2.1 x.2.2.1,fun x=>HA.kf r x.1.2.1 x.1.2.2.1 x.2.1 x.2.2.1,fun x=>C7.kf r x.2.2.1 x.2.2.2.1 x.2.2.2.2.1.1,())
def CU.kR (n:Nat):CU.T:=Cw CU.kS n
def Ba.Kc (n:Nat):=kd 135 Ba.p (CU.kR n).1
def Ba.Nn:=Ba.Kc FU
def Ba.k:=Ba.kr (CU.kR FU)
def Gp.Kc (n:Nat):=kd 168 Gp.p (CU.kR n).2.1
def HA.Kc (n:Nat):=kd 170 HA.p (CU.kR n).2.2.1
def C7.Kc (n:Nat):=kd 172 C7.p (CU.kR n).2.2.2.1
def CU.Ry (n:Nat):List (Bw Dop.D4):=[Ba.Kc n,Gp.Kc n,HA.Kc n,C7.Kc n]
theorem CU.Et: ∀ n,(Ba.Kc n).Holds prog/\(Gp.Kc n).Holds prog/\(HA.Kc n).Holds prog/\(C7.Kc n).Holds prog/\True
 | 0=>⟨AO AH Ba.ok,AO AH Gp.ok,AO AH HA.ok,AO AH C7.ok,trivial⟩
 | n+1=>by
  obtain ⟨h0,h1,h2,h3,_⟩:=CU.Et n
  have hh: ∀ c∈CU.Ry n,c.Holds prog:=(hc h0 (hc h1 (hc h2 (hc h3 hn))))
  exact ⟨F4 AH (Ab hh (hc Np.Kh (hc Jc.Kh (hc Bn.Kh (hc CE.IN (hc Au.Kh (hc Mt.Kh (hc Jd.Kh hn)))))))) Ba.ok (fun t x=>Ba.k0 (CU.kR n) t x.1.2.1 x.2.1 x.2.2.1) (fun c=>(fun t1 k0 k1 b3=>c 27 Ba.mK rfl ((t1,(),(),()),(k0,k1,((),()),(b3,()),())),fun t1 t27 k0 k1 b3=>c 30 Ba.mL rfl ((t1,(),(),t27,()),(k0,k1,((),()),(b3,()),())),())) (Ba.kS (CU.kR n)) (by kernel_rfl),
   kh AH (Ab hh hn) Gp.ok (by kernel_rfl),
   kh AH (Ab hh (hc EC.Kh (hc Au.Kh (hc Bn.Kh hn)))) HA.ok (by kernel_rfl),
   F4 AH (Ab hh (hc GX.Kh (hc Aa.Kh (hc Bn.Kh hn)))) C7.ok (fun t x=>C7.k0 (CU.kR n) t x.2.2.1 x.2.2.2.1 x.2.2.2.2.1.1) (fun c=>(fun l t12 t13 t14 k1 k2 b3=>c 3 C7.q3 rfl (((),l,t12,t13,t14,()),(((),()),k1,k2,(b3,()),())),())) (C7.kS (CU.kR n)) (by kernel_rfl),
   trivial⟩
theorem Ba.IN:Ba.Nn.Holds prog:=(CU.Et FU).1
end
end Go.Proofs.Tryz
