/-
 Functions in plain words (what their equations say), and their contracts. Written by a program.
-/
import Derived.Test.YtikecakpcfpghaaGreatDoorTwD
import Derived.Test.YtikecakpcfpghaaGreatDoorMm
set_option linter.all false
set_option maxRecDepth 100000
set_option maxHeartbeats 4000000
namespace Go.Proofs.Tryz
open Go Go.En
noncomputable section
def Et.k (n:Int) (k0:CT):WI Dop.HC Bool CT:=
 let A1:=QK (Dop.HC.mk 0 0 0 []) false k0
 ci (n<0) A1<|
 ci (I k0.l.length<=n) A1<|
 ck (0<=n/\n<I k0.l.length)<|
 ck (n.toNat<k0.l.length)<|
 QK (List.getD k0.l n.toNat Dop.d6) true k0
def Et.Kc:=kd 77 Et.p fun x=>Et.k x.1.2.1 x.2.1
theorem Et.Kh:Et.Kc.Holds prog:=kh AH hn Et.ok (by kernel_rfl)
def I8.k (x:Dop.HC) (k0:CT):WI Int Int CT:=
 (Du.k k0.l x).bind fun y2=>
 ci (0<=y2.1.1) (QK y2.1.1 0 k0)<|
 ci (I k0.l.length=256) (QK 0 4 k0)<|
 ck (DK none (room 40 (k0.l.length+(x::[]).length)))<|
 ck (BD (I (k0.l++x::[]).length -1))<|
 QK (I (k0.l++x::[]).length -1) 0 (CT.nP k0 (k0.l++x::[]))
def I8.Kc:=kd 105 I8.p fun x=>I8.k x.1.2.1 x.2.1
theorem I8.Kh:I8.Kc.Holds prog:=kh AH (hc Du.Kh hn) I8.ok (by kernel_rfl)
def I5.k (elem:Int) (k0:CT):WI Int Int CT:=
 (Et.k elem k0).bind fun y2=>
 ci (!y2.1.2.1) (QK 0 1 y2.2.1)<|
 (I8.k (Dop.HC.mk 4 elem 0 []) y2.2.1).bind mI
def I5.Kc:=kd 73 I5.p fun x=>I5.k x.1.2.1 x.2.1
theorem I5.Kh:I5.Kc.Holds prog:=kh AH (hc Et.Kh (hc I8.Kh hn)) I5.ok (by kernel_rfl)
abbrev Bf.kr (r:F5.T) (t1:Int) (k0:CT):WI Int Bool CT:=r.1 (((),t1,()),(k0,()))
abbrev Lm.T:Type:=Int->List Dop.WO->Int->Int->CT->WI Int Bool CT
abbrev Bf.KT:Type:=Lm.T×Unit
def Lm.kB (rK:F5.T) (tK:Bf.KT):Lm.T:=fun t10 t54 t55 t56 k0=>
 ci (t56<t55) (ck (0<=t56/\t56<I t54.length)<|
 (Bf.kr rK ((List.getD t54 t56.toNat Dop.d16).CC) k0).bind fun y3=>
 ck (BD (t10+y3.1.1))<|
 ck (BD (t56+1))<|
 tK.1 (t10+y3.1.1) t54 t55 (t56+1) y3.2.1)<|
 QK t10 (decide (0<t10)) k0
def Bf.kS (rK:F5.T) (tK:Bf.KT):Bf.KT:=(Lm.kB rK tK,())
def Bf.kL (rK:F5.T) (n:Nat):Bf.KT:=C5 (Bf.kS rK) n
def Bf.k0 (rK:F5.T) (tK:Bf.KT) (t1:Int) (k0:CT):WI Int Bool CT:=
 (Et.k t1 k0).bind fun y2=>
 ci (!y2.1.2.1) (QK 0 false y2.2.1)<|
 ci (y2.1.1.kind=0) (QK 0 false y2.2.1)<|
 ci (y2.1.1.kind=5) ((Bf.kr rK y2.1.1.elem y2.2.1).bind fun y6=>
 ck (BD (y6.1.1*y2.1.1.n))<|
 QK (y6.1.1*y2.1.1.n) true y6.2.1)<|
 ci (y2.1.1.kind=6) (tK.1 0 ((AM (CT.fields y2.2.1) y2.1.1.name).getD []) (I ((AM (CT.fields y2.2.1) y2.1.1.name).getD []).length) 0 y2.2.1)<|
 QK 1 true y2.2.1
def Bf.kf (rK:F5.T) (t1:Int) (k0:CT):WI Int Bool CT:=Bf.k0 rK (Bf.kL rK 1000000) t1 k0
def F5.kS (r:F5.T):F5.T:=(fun x=>Bf.kf r x.1.2.1 x.2.1,())
def F5.kR (n:Nat):F5.T:=C5 F5.kS n
def Bf.Kc (n:Nat):=kd 35 Bf.p (F5.kR n).1
def Bf.LO:=Bf.Kc FU
def Bf.k:=Bf.kr (F5.kR FU)
def F5.SK (n:Nat):List (By Dop.D4):=[Bf.Kc n]
theorem F5.E5: ∀ n,(Bf.Kc n).Holds prog/\True
 | 0=>⟨AO AH Bf.ok,trivial⟩
 | n+1=>by
  obtain ⟨h0,_⟩:=F5.E5 n
  have hh: ∀ c∈F5.SK n,c.Holds prog:=(hc h0 hn)
  exact ⟨GB AH (Ad hh (hc Et.Kh hn)) Bf.ok (fun t x=>Bf.k0 (F5.kR n) t x.1.2.1 x.2.1) (fun c=>(fun t10 t54 t55 t56 k0=>c 10 Bf.Us rfl (((),t10,t54,t55,t56,()),(k0,())),())) (Bf.kS (F5.kR n)) (by kernel_rfl),
   trivial⟩
theorem Bf.Ie:Bf.LO.Holds prog:=(F5.E5 FU).1
def Kk.k (elem n:Int) (k0:CT):WI Int Int CT:=
 (Et.k elem k0).bind fun y2=>
 ci (!y2.1.2.1) (QK 0 1 y2.2.1)<|
 (Bf.k elem y2.2.1).bind fun y4=>
 ci (!y4.1.2.1) (QK 0 8 y4.2.1)<|
 ci (n<1) (QK 0 4 y4.2.1)<|
 ci (1024<n) (QK 0 4 y4.2.1)<|
 ck (BD (y4.1.1*n))<|
 ci (4096<y4.1.1*n) (QK 0 4 y4.2.1)<|
 (I8.k (Dop.HC.mk 5 elem n []) y4.2.1).bind mI
def Kk.Kc:=kd 74 Kk.p fun x=>Kk.k x.1.2.1 x.1.2.2.1 x.2.1
theorem Kk.Kh:Kk.Kc.Holds prog:=kh AH (hc Et.Kh (hc Bf.Ie (hc I8.Kh hn))) Kk.ok (by kernel_rfl)
def I6.k (name:List UInt8) (k0:CT):WI Int Int CT:=
 ci (name=[]) (QK 0 1 k0)<|
 (I8.k (Dop.HC.mk 6 0 0 name) k0).bind mI
def I6.Kc:=kd 75 I6.p fun x=>I6.k x.1.2.1 x.2.1
theorem I6.Kh:I6.Kc.Holds prog:=kh AH (hc I8.Kh hn) I6.ok (by kernel_rfl)
def DZ.k (n:Int) (k0:CT):R1 Bool CT:=
 (Et.k n k0).bind fun y2=>
 ci (1<=y2.1.1.kind) (Cn (decide (y2.1.1.kind<=4)) y2.2.1)<|
 Cn false y2.2.1
def DZ.Kc:=kd 39 DZ.p fun x=>DZ.k x.1.2.1 x.2.1
theorem DZ.Kh:DZ.Kc.Holds prog:=kh AH (hc Et.Kh hn) DZ.ok (by kernel_rfl)
def Hn.KE:Env Dop.D4:=Aj prog 173 tb [Et.Kc,Bf.LO] Hn.p
def Hn.k (n:Int) (name:List UInt8) (k0:CT):nX Int Int Bool CT:=Hn.KE.J6 3000 1000000 Hn.p.sp (((),n,name,()),(k0,()))
def Hn.Kc:=kd 173 Hn.p fun x=>Hn.k x.1.2.1 x.1.2.2.1 x.2.1
theorem Hn.Kh:Hn.Kc.Holds prog:=kh AH (hc Et.Kh (hc Bf.Ie hn)) Hn.ok (by kernel_rfl)
def N9.k (n:Int) (k0:CK) (k1:CT):R2 Dop.AZ CK CT:=
 let A1:=Ac (Dop.AZ.mk 0 (-1) (-1) (-1) (-1) [] 0 0 0) k0 k1
 ci (n<0) A1<|
 ci (I k0.t.nodes.length<=n) A1<|
 ck (0<=n/\n<I k0.t.nodes.length)<|
 Ac (List.getD k0.t.nodes n.toNat Dop.d5) k0 k1
def N9.Kc:=kd 17 N9.p fun x=>N9.k x.1.2.1 x.2.1 x.2.2.1
theorem N9.Kh:N9.Kc.Holds prog:=kh AH hn N9.ok (by kernel_rfl)
def Aw.k (e n:Int) (k0:CK) (k1:CT):R2 Dop.Ae CK CT:=
 let A1:=Dop.Ae.mk (-1) 1 0 0 false
 ci (k0.e=0) ((N9.k n k0 k1).bind fun y3=>
 Ac A1 (CK.FX (CK.Y8 y3.2.1 e) y3.1.1.at_) y3.2.2.1)<|
 Ac A1 k0 k1
def Aw.Kc:=kd 34 Aw.p fun x=>Aw.k x.1.2.1 x.1.2.2.1 x.2.1 x.2.2.1
theorem Aw.Kh:Aw.Kc.Holds prog:=kh AH (hc N9.Kh hn) Aw.ok (by kernel_rfl)
def Cu.k (t:Int) (k0:CK) (k1:CT):R2 Int CK CT:=
 (Et.k t k1).bind fun y2=>
 Ac y2.1.1.kind k0 y2.2.1
def Cu.Kc:=kd 38 Cu.p fun x=>Cu.k x.1.2.1 x.2.1 x.2.2.1
theorem Cu.Kh:Cu.Kc.Holds prog:=kh AH (hc Et.Kh hn) Cu.ok (by kernel_rfl)
def Dt.k (t:Int) (k0:CK) (k1:CT):R2 Bool CK CT:=
 (Cu.k t k0 k1).bind fun y2=>
 ci (y2.1.1=1) (Ac true y2.2.1 y2.2.2.1)<|
 ci (y2.1.1=2) (Ac true y2.2.1 y2.2.2.1)<|
 Ac (decide (y2.1.1=3)) y2.2.1 y2.2.2.1
def Dt.Kc:=kd 36 Dt.p fun x=>Dt.k x.1.2.1 x.2.1 x.2.2.1
theorem Dt.Kh:Dt.Kc.Holds prog:=kh AH (hc Cu.Kh hn) Dt.ok (by kernel_rfl)
def F8.k (t:Int) (k0:CK) (k1:CT):WS Int Int CK CT:=
 (Et.k t k1).bind fun y2=>
 (Bf.k y2.1.1.elem y2.2.1).bind fun y3=>
 ci (!y3.1.2.1) (Rf y2.1.1.elem 1 k0 y3.2.1)<|
 Rf y2.1.1.elem y3.1.1 k0 y3.2.1
def F8.Kc:=kd 141 F8.p fun x=>F8.k x.1.2.1 x.2.1 x.2.2.1
theorem F8.Kh:F8.Kc.Holds prog:=kh AH (hc Et.Kh (hc Bf.Ie hn)) F8.ok (by kernel_rfl)
def Ju.k (t:Int) (k0:CK) (k1:CT):R2 Bool CK CT:=
 (Cu.k t k0 k1).bind fun y2=>
 ci (y2.1.1=2) (Ac true y2.2.1 y2.2.2.1)<|
 Ac (decide (y2.1.1=4)) y2.2.1 y2.2.2.1
def Ju.Kc:=kd 167 Ju.p fun x=>Ju.k x.1.2.1 x.2.1 x.2.2.1
theorem Ju.Kh:Ju.Kc.Holds prog:=kh AH (hc Cu.Kh hn) Ju.ok (by kernel_rfl)
def G0.k (a b:Int) (k0:CK) (k1:CT):R2 Int CK CT:=
 (Cu.k a k0 k1).bind fun y2=>
 ci (y2.1.1=2) (Ac 2 y2.2.1 y2.2.2.1)<|
 (Cu.k b y2.2.1 y2.2.2.1).bind fun y4=>
 ci (y4.1.1=2) (Ac 2 y4.2.1 y4.2.2.1)<|
 Ac 1 y4.2.1 y4.2.2.1
def G0.Kc:=kd 165 G0.p fun x=>G0.k x.1.2.1 x.1.2.2.1 x.2.1 x.2.2.1
theorem G0.Kh:G0.Kc.Holds prog:=kh AH (hc Cu.Kh hn) G0.ok (by kernel_rfl)
def Ba.k (kind a b d n:Int) (text:List UInt8) (k0:CK) (k1:CT):R2 Int CK CT:=
 ck (DK none (room 80 (k0.nodes.length+(Dop.AZ.mk kind a b d (-1) text n 0 0::[]).length)))<|
 ck (BD (I (k0.nodes++Dop.AZ.mk kind a b d (-1) text n 0 0::[]).length -1))<|
 Ac (I (k0.nodes++Dop.AZ.mk kind a b d (-1) text n 0 0::[]).length -1) (CK.FA k0 (k0.nodes++Dop.AZ.mk kind a b d (-1) text n 0 0::[])) k1
def Ba.Kc:=kd 43 Ba.p fun x=>Ba.k x.1.2.1 x.1.2.2.1 x.1.2.2.2.1 x.1.2.2.2.2.1 x.1.2.2.2.2.2.1 x.1.2.2.2.2.2.2.1 x.2.1 x.2.2.1
theorem Ba.Kh:Ba.Kc.Holds prog:=kh AH hn Ba.ok (by kernel_rfl)
def Eh.k (n:Int):HH Int:=
 let A1:=IntKind.i32.wrap (IntKind.u32.wrap n)
 ck (BD A1)<|
 Ez A1
def Eh.Kc:=kd 37 Eh.p fun x=>Eh.k x.1.1
theorem Eh.Kh:Eh.Kc.Holds prog:=kh AH hn Eh.ok (by kernel_rfl)
def Eu.k (n:Int) (k0:CK) (k1:CT):R2 Int CK CT:=
 (Eh.k n).bind fun y2=>
 (Ba.k 1 ((-1)) ((-1)) ((-1)) y2.1.1 [] k0 k1).bind BP
def Eu.Kc:=kd 79 Eu.p fun x=>Eu.k x.1.2.1 x.2.1 x.2.2.1
theorem Eu.Kh:Eu.Kc.Holds prog:=kh AH (hc Eh.Kh (hc Ba.Kh hn)) Eu.ok (by kernel_rfl)
def EK.k (n:Int) (k0:CK) (k1:CT):R2 Int CK CT:=
 (Ba.k 2 ((-1)) ((-1)) ((-1)) n [] k0 k1).bind BP
def EK.Kc:=kd 45 EK.p fun x=>EK.k x.1.2.1 x.2.1 x.2.2.1
theorem EK.Kh:EK.Kc.Holds prog:=kh AH (hc Ba.Kh hn) EK.ok (by kernel_rfl)
def I7.k (n:Int) (k0:CK) (k1:CT):R2 Int CK CT:=
 let A1:=k0.f.Al+(1:Int) -1
 ci (k0.f.Al=4096) ((Aw.k 4 n k0 k1).bind fun y3=>
 Ac 0 y3.2.1 y3.2.2.1)<|
 ck (BD (k0.f.Al+1))<|
 ck (BD A1)<|
 Ac A1 (CK.Y9 k0 (Dop.Dc.mk k0.f.name k0.f.params (k0.f.Al+1) k0.f.frame k0.f.body)) k1
def I7.Kc:=kd 78 I7.p fun x=>I7.k x.1.2.1 x.2.1 x.2.2.1
theorem I7.Kh:I7.Kc.Holds prog:=kh AH (hc Aw.Kh hn) I7.ok (by kernel_rfl)
def JB.k (t:Int) (k0:CK) (k1:CT):R2 Int CK CT:=
 (I5.k t k1).bind fun y2=>
 Ac y2.1.1 k0 y2.2.1
def JB.Kc:=kd 163 JB.p fun x=>JB.k x.1.2.1 x.2.1 x.2.2.1
theorem JB.Kh:JB.Kc.Holds prog:=kh AH (hc I5.Kh hn) JB.ok (by kernel_rfl)
def Kl.k (a:Int) (k0:CK) (k1:CT):R2 Int CK CT:=
 (Ba.k 4 a ((-1)) ((-1)) 0 [] k0 k1).bind BP
def Kl.Kc:=kd 164 Kl.p fun x=>Kl.k x.1.2.1 x.2.1 x.2.2.1
theorem Kl.Kh:Kl.Kc.Holds prog:=kh AH (hc Ba.Kh hn) Kl.ok (by kernel_rfl)
def I9.k (a t:Int) (k0:CK) (k1:CT):R2 Dop.Ae CK CT:=
 (Cu.k t k0 k1).bind fun y2=>
 ci (y2.1.1=5) ((F8.k t y2.2.1 y2.2.2.1).bind fun y4=>
 (JB.k y4.1.1 y4.2.1 y4.2.2.1).bind fun y5=>
 Ac (Dop.Ae.mk a y5.1.1 0 0 false) y5.2.1 y5.2.2.1)<|
 ci (y2.1.1=6) (Ac (Dop.Ae.mk a t 2 a false) y2.2.1 y2.2.2.1)<|
 (Kl.k a y2.2.1 y2.2.2.1).bind fun y5=>
 Ac (Dop.Ae.mk y5.1.1 t 2 a false) y5.2.1 y5.2.2.1
def I9.Kc:=kd 130 I9.p fun x=>I9.k x.1.2.1 x.1.2.2.1 x.2.1 x.2.2.1
theorem I9.Kh:I9.Kc.Holds prog:=kh AH (hc Cu.Kh (hc F8.Kh (hc JB.Kh (hc Kl.Kh hn)))) I9.ok (by kernel_rfl)
def Fe.k (p:Dop.CD) (k0:CK) (k1:CT):R2 Int CK CT:=
 ci (p.kind=3) ((Ba.k 3 ((-1)) ((-1)) ((-1)) p.n [] k0 k1).bind BP)<|
 (Eu.k p.n k0 k1).bind BP
def Fe.Kc:=kd 44 Fe.p fun x=>Fe.k x.1.2.1 x.2.1 x.2.2.1
theorem Fe.Kh:Fe.Kc.Holds prog:=kh AH (hc Ba.Kh (hc Eu.Kh hn)) Fe.ok (by kernel_rfl)
def Hl.k (op a:Int) (k0:CK) (k1:CT):R2 Int CK CT:=
 (Ba.k 7 a ((-1)) ((-1)) op [] k0 k1).bind BP
def Hl.Kc:=kd 142 Hl.p fun x=>Hl.k x.1.2.1 x.1.2.2.1 x.2.1 x.2.2.1
theorem Hl.Kh:Hl.Kc.Holds prog:=kh AH (hc Ba.Kh hn) Hl.ok (by kernel_rfl)
def Hm.k (r a:Int) (k0:CK) (k1:CT):R2 Int CK CT:=
 (Ba.k 6 a ((-1)) ((-1)) r [] k0 k1).bind BP
def Hm.Kc:=kd 143 Hm.p fun x=>Hm.k x.1.2.1 x.1.2.2.1 x.2.1 x.2.2.1
theorem Hm.Kh:Hm.Kc.Holds prog:=kh AH (hc Ba.Kh hn) Hm.ok (by kernel_rfl)
def B3.k (kind a b d e n:Int) (text:List UInt8) (k0:CK) (k1:CT):R2 Int CK CT:=
 ck (DK none (room 80 (k0.nodes.length+(Dop.AZ.mk kind a b d e text n 0 0::[]).length)))<|
 ck (BD (I (k0.nodes++Dop.AZ.mk kind a b d e text n 0 0::[]).length -1))<|
 Ac (I (k0.nodes++Dop.AZ.mk kind a b d e text n 0 0::[]).length -1) (CK.FA k0 (k0.nodes++Dop.AZ.mk kind a b d e text n 0 0::[])) k1
def B3.Kc:=kd 42 B3.p fun x=>B3.k x.1.2.1 x.1.2.2.1 x.1.2.2.2.1 x.1.2.2.2.2.1 x.1.2.2.2.2.2.1 x.1.2.2.2.2.2.2.1 x.1.2.2.2.2.2.2.2.1 x.2.1 x.2.2.1
theorem B3.Kh:B3.Kc.Holds prog:=kh AH hn B3.ok (by kernel_rfl)
abbrev Pt.T:Type:=Int->Int->Bool->Int->Int->Bool->CK->CT->Dop.Ae->R2 Int CK CT
abbrev Lx.T:Type:=Int->Int->Int->Bool->CK->CT->Dop.Ae->R2 Int CK CT
abbrev BO.KT:Type:=Pt.T×Lx.T×Unit
def Pt.kB (tK:BO.KT):Pt.T:=fun t2 t3 t4 t11 t12 t13 k0 k1 b2=>
 ci (t12=4) ((Dt.k b2.BB k0 k1).bind fun y3=>
 let z1:R2 Int CK CT:=
 (DZ.k b2.BB y3.2.2.1).bind fun y6=>
 ci y6.1.1 ((DZ.k t2 y6.2.1).bind fun y8=>
 tK.2.1 t3 t11 t12 y8.1.1 y3.2.1 y8.2.1 b2)<|
 tK.2.1 t3 t11 t12 false y3.2.1 y6.2.1 b2
 ci y3.1.1 (ci t4 (z1)<|
 tK.2.1 t3 t11 t12 b2.zero y3.2.1 y3.2.2.1 b2)<|
 ci t4 (z1)<|
 tK.2.1 t3 t11 t12 t13 y3.2.1 y3.2.2.1 b2)<|
 ci t4 ((DZ.k b2.BB k1).bind fun y4=>
 ci y4.1.1 ((DZ.k t2 y4.2.1).bind fun y6=>
 tK.2.1 t3 t11 t12 y6.1.1 k0 y6.2.1 b2)<|
 tK.2.1 t3 t11 t12 false k0 y4.2.1 b2)<|
 tK.2.1 t3 t11 t12 t13 k0 k1 b2
def Lx.kB (tK:BO.KT):Lx.T:=fun t3 t11 t12 t13 k0 k1 b2=>
 ci (!t13) ((Aw.k 8 t3 k0 k1).bind fun y3=>
 Ac y3.1.1.n y3.2.1 y3.2.2.1)<|
 ci (t12=3) (ci (!(t11=3)) ((Hl.k 22 b2.n k0 k1).bind BP)<|
 Ac b2.n k0 k1)<|
 Ac b2.n k0 k1
def BO.kS (tK:BO.KT):BO.KT:=(Pt.kB tK,Lx.kB tK,())
def BO.kL (n:Nat):BO.KT:=C5 BO.kS n
def BO.k0 (tK:BO.KT) (t1:Dop.Ae) (t2 t3:Int) (t4:Bool) (k0:CK) (k1:CT):R2 Int CK CT:=
 (Cu.k t1.BB k0 k1).bind fun y2=>
 (Cu.k t2 y2.2.1 y2.2.2.1).bind fun y3=>
 (Dt.k t1.BB y3.2.1 y3.2.2.1).bind fun y4=>
 ci y4.1.1 ((Dt.k t2 y4.2.1 y4.2.2.1).bind fun y6=>
 ci (y2.1.1=4) (ci (y3.1.1=4) ((F8.k t1.BB y6.2.1 y6.2.2.1).bind fun y9=>
 (F8.k t2 y9.2.1 y9.2.2.1).bind fun y10=>
 ci (t1.BB=t2) (tK.1 t2 t3 t4 y2.1.1 y3.1.1 true y10.2.1 y10.2.2.1 t1)<|
 ci (y9.1.1=0) (tK.1 t2 t3 t4 y2.1.1 y3.1.1 true y10.2.1 y10.2.2.1 t1)<|
 tK.1 t2 t3 t4 y2.1.1 y3.1.1 (decide (y10.1.1=0)) y10.2.1 y10.2.2.1 t1)<|
 tK.1 t2 t3 t4 y2.1.1 y3.1.1 y6.1.1 y6.2.1 y6.2.2.1 t1)<|
 tK.1 t2 t3 t4 y2.1.1 y3.1.1 y6.1.1 y6.2.1 y6.2.2.1 t1)<|
 ci (y2.1.1=4) (ci (y3.1.1=4) ((F8.k t1.BB y4.2.1 y4.2.2.1).bind fun y8=>
 (F8.k t2 y8.2.1 y8.2.2.1).bind fun y9=>
 ci (t1.BB=t2) (tK.1 t2 t3 t4 y2.1.1 y3.1.1 true y9.2.1 y9.2.2.1 t1)<|
 ci (y8.1.1=0) (tK.1 t2 t3 t4 y2.1.1 y3.1.1 true y9.2.1 y9.2.2.1 t1)<|
 tK.1 t2 t3 t4 y2.1.1 y3.1.1 (decide (y9.1.1=0)) y9.2.1 y9.2.2.1 t1)<|
 tK.1 t2 t3 t4 y2.1.1 y3.1.1 false y4.2.1 y4.2.2.1 t1)<|
 tK.1 t2 t3 t4 y2.1.1 y3.1.1 false y4.2.1 y4.2.2.1 t1
def BO.k (t1:Dop.Ae) (t2 t3:Int) (t4:Bool) (k0:CK) (k1:CT):R2 Int CK CT:=BO.k0 (BO.kL 1000000) t1 t2 t3 t4 k0 k1
def BO.Kc:=kd 107 BO.p fun x=>BO.k x.1.2.1 x.1.2.2.1 x.1.2.2.2.1 x.1.2.2.2.2.1 x.2.1 x.2.2.1
theorem BO.Kh:BO.Kc.Holds prog:=GB AH (hc Cu.Kh (hc Dt.Kh (hc F8.Kh (hc DZ.Kh (hc Aw.Kh (hc Hl.Kh hn)))))) BO.ok (fun t x=>BO.k0 t x.1.2.1 x.1.2.2.1 x.1.2.2.2.1 x.1.2.2.2.2.1 x.2.1 x.2.2.1) (fun c=>(fun t2 t3 t4 t11 t12 t13 k0 k1 b2=>c 7 BO.q7 rfl (((),t2,t3,t4,(),t11,t12,t13,()),(k0,k1,(b2,()),())),fun t3 t11 t12 t13 k0 k1 b2=>c 11 BO.cR rfl (((),t3,(),t11,t12,t13,()),(k0,k1,(b2,()),())),())) BO.kS (by kernel_rfl)
def Cq.k (op a b:Int) (k0:CK) (k1:CT):R2 Int CK CT:=
 (Ba.k 8 a b ((-1)) op [] k0 k1).bind BP
def Cq.Kc:=kd 168 Cq.p fun x=>Cq.k x.1.2.1 x.1.2.2.1 x.1.2.2.2.1 x.2.1 x.2.2.1
theorem Cq.Kh:Cq.Kc.Holds prog:=kh AH (hc Ba.Kh hn) Cq.ok (by kernel_rfl)
def GU.k (n size:Int) (k0:CK) (k1:CT):R2 Int CK CT:=
 ci (size=1) (Ac n k0 k1)<|
 (Eu.k size k0 k1).bind fun y3=>
 (Cq.k 3 n y3.1.1 y3.2.1 y3.2.2.1).bind BP
def GU.Kc:=kd 169 GU.p fun x=>GU.k x.1.2.1 x.1.2.2.1 x.2.1 x.2.2.1
theorem GU.Kh:GU.Kc.Holds prog:=kh AH (hc Eu.Kh (hc Cq.Kh hn)) GU.ok (by kernel_rfl)
abbrev Pm.T:Type:=Int->Int->Int->CK->CT->R2 Int CK CT
abbrev Lk.T:Type:=Int->Int->Int->Int->Int->CK->CT->R2 Int CK CT
abbrev C7.KT:Type:=Pm.T×Lk.T×Unit
def Pm.kB (tK:C7.KT):Pm.T:=fun t1 t2 t7 k0 k1=>
 let A1:=List.getD k0.t.types t7.toNat Dop.d6
 let A2:=List.getD k0.num A1.elem.toNat 0
 let z1:R2 Int CK CT:=
 ck (0<=t1/\t1<I k0.num.length)<|
 ck (t1.toNat<k0.num.length)<|
 Ac (List.getD k0.num t1.toNat 0) k0 k1
 ci (t7<=t1) (ci (t7<I k0.t.types.length) (ck (0<=t7/\t7<I k0.t.types.length)<|
 ci (A1.kind=4) (ck (0<=A1.elem/\A1.elem<I k0.num.length)<|
 ck (A1.elem.toNat<k0.num.length)<|
 (I5.k A2 k1).bind fun y5=>
 tK.2.1 t1 t2 t7 y5.1.1 y5.1.2.1 k0 y5.2.1)<|
 ci (A1.kind=5) (ck (0<=A1.elem/\A1.elem<I k0.num.length)<|
 ck (A1.elem.toNat<k0.num.length)<|
 (Kk.k A2 (A1.n) k1).bind fun y6=>
 tK.2.1 t1 t2 t7 y6.1.1 y6.1.2.1 k0 y6.2.1)<|
 ci (A1.kind=6) ((I6.k (A1.name) k1).bind fun y7=>
 tK.2.1 t1 t2 t7 y7.1.1 y7.1.2.1 k0 y7.2.1)<|
 tK.2.1 t1 t2 t7 t7 0 k0 k1)<|
 z1)<|
 z1
def Lk.kB (tK:C7.KT):Lk.T:=fun t1 t2 t7 t9 t10 k0 k1=>
 ci (!(t10=0)) ((Aw.k t10 t2 k0 k1).bind fun y3=>
 Ac 1 y3.2.1 y3.2.2.1)<|
 ck (DK none (room 8 (k0.num.length+(t9::[]).length)))<|
 ck (BD (t7+1))<|
 tK.1 t1 t2 (t7+1) ((CK.Nu k0 (k0.num++t9::[]))) k1
def C7.kS (tK:C7.KT):C7.KT:=(Pm.kB tK,Lk.kB tK,())
def C7.kL (n:Nat):C7.KT:=C5 C7.kS n
def C7.k0 (tK:C7.KT) (t1 t2:Int) (k0:CK) (k1:CT):R2 Int CK CT:=
 tK.1 t1 t2 (I k0.num.length) k0 k1
def C7.k (t1 t2:Int) (k0:CK) (k1:CT):R2 Int CK CT:=C7.k0 (C7.kL 1000000) t1 t2 k0 k1
def C7.Kc:=kd 32 C7.p fun x=>C7.k x.1.2.1 x.1.2.2.1 x.2.1 x.2.2.1
theorem C7.Kh:C7.Kc.Holds prog:=GB AH (hc I5.Kh (hc Kk.Kh (hc I6.Kh (hc Aw.Kh hn)))) C7.ok (fun t x=>C7.k0 t x.1.2.1 x.1.2.2.1 x.2.1 x.2.2.1) (fun c=>(fun t1 t2 t7 k0 k1=>c 2 C7.q2 rfl (((),t1,t2,t7,()),(k0,k1,())),fun t1 t2 t7 t9 t10 k0 k1=>c 13 C7.Zd rfl (((),t1,t2,t7,t9,t10,()),(k0,k1,())),())) C7.kS (by kernel_rfl)
def JA.k (v:Dop.Ae) (at_:Int) (k0:CK) (k1:CT):R2 Dop.Ae CK CT:=
 ci (!(k0.e=0)) ((Aw.k 8 at_ k0 k1).bind BP)<|
 (Cu.k v.BB k0 k1).bind fun y3=>
 ci (!(y3.1.1=4)) ((Aw.k 8 at_ y3.2.1 y3.2.2.1).bind BP)<|
 (F8.k v.BB y3.2.1 y3.2.2.1).bind fun y5=>
 (Bf.k y5.1.1 y5.2.2.1).bind fun y6=>
 ci (!y6.1.2.1) ((Aw.k 8 at_ y5.2.1 y6.2.1).bind BP)<|
 (I9.k v.n y5.1.1 y5.2.1 y6.2.1).bind BP
def JA.Kc:=kd 138 JA.p fun x=>JA.k x.1.2.1 x.1.2.2.1 x.2.1 x.2.2.1
theorem JA.Kh:JA.Kc.Holds prog:=kh AH (hc Cu.Kh (hc Aw.Kh (hc F8.Kh (hc Bf.Ie (hc I9.Kh hn))))) JA.ok (by kernel_rfl)
abbrev L2.T:Type:=Int->CK->CT->Dop.Ae->Dop.Ae->Dop.Ae->Dop.Ae->R2 Dop.Ae CK CT
abbrev EL.KT:Type:=L2.T×Unit
def L2.kB (tK:EL.KT):L2.T:=fun t11 k0 k1 b2 b3 b4 b5=>
 (Ba.k 9 b2.n b3.n b4.n 0 [] k0 k1).bind fun y2=>
 Ac (Dop.Ae.mk y2.1.1 t11 0 0 false) y2.2.1 y2.2.2.1
def EL.kS (tK:EL.KT):EL.KT:=(L2.kB tK,())
def EL.kL (n:Nat):EL.KT:=C5 EL.kS n
def EL.k0 (tK:EL.KT) (t1 t2 t3:Dop.Ae) (t4:Int) (k0:CK) (k1:CT):R2 Dop.Ae CK CT:=
 let A1:=Dop.Ae.mk 0 0 0 0 false
 let F1:Y2 Int CK CT->R2 Dop.Ae CK CT:=fun y8=>
 ci (y8.1.1=4) (ci t3.zero (tK.1 t2.BB y8.2.1 y8.2.2.1 t1 t2 t3 A1)<|
 (Aw.k 8 t4 y8.2.1 y8.2.2.1).bind BP)<|
 (Aw.k 8 t4 y8.2.1 y8.2.2.1).bind BP
 ci (!(k0.e=0)) (Ac (Dop.Ae.mk (-1) 1 0 0 false) k0 k1)<|
 (Dt.k t2.BB k0 k1).bind fun y3=>
 ci y3.1.1 ((Dt.k t3.BB y3.2.1 y3.2.2.1).bind fun y5=>
 ci y5.1.1 ((G0.k t2.BB t3.BB y5.2.1 y5.2.2.1).bind fun y7=>
 tK.1 y7.1.1 y7.2.1 y7.2.2.1 t1 t2 t3 A1)<|
 ci (t2.BB=t3.BB) (tK.1 t2.BB y5.2.1 y5.2.2.1 t1 t2 t3 A1)<|
 (Cu.k t3.BB y5.2.1 y5.2.2.1).bind fun y8=>
 ci (y8.1.1=4) (ci t2.zero (tK.1 t3.BB y8.2.1 y8.2.2.1 t1 t2 t3 A1)<|
 (Cu.k t2.BB y8.2.1 y8.2.2.1).bind F1)<|
 (Cu.k t2.BB y8.2.1 y8.2.2.1).bind F1)<|
 ci (t2.BB=t3.BB) (tK.1 t2.BB y3.2.1 y3.2.2.1 t1 t2 t3 A1)<|
 (Cu.k t3.BB y3.2.1 y3.2.2.1).bind fun y6=>
 ci (y6.1.1=4) (ci t2.zero (tK.1 t3.BB y6.2.1 y6.2.2.1 t1 t2 t3 A1)<|
 (Cu.k t2.BB y6.2.1 y6.2.2.1).bind F1)<|
 (Cu.k t2.BB y6.2.1 y6.2.2.1).bind F1
def EL.k (t1 t2 t3:Dop.Ae) (t4:Int) (k0:CK) (k1:CT):R2 Dop.Ae CK CT:=EL.k0 (EL.kL 1000000) t1 t2 t3 t4 k0 k1
def EL.Kc:=kd 137 EL.p fun x=>EL.k x.1.2.1 x.1.2.2.1 x.1.2.2.2.1 x.1.2.2.2.2.1 x.2.1 x.2.2.1
theorem EL.Kh:EL.Kc.Holds prog:=GB AH (hc Dt.Kh (hc G0.Kh (hc Cu.Kh (hc Aw.Kh (hc Ba.Kh hn))))) EL.ok (fun t x=>EL.k0 t x.1.2.1 x.1.2.2.1 x.1.2.2.2.1 x.1.2.2.2.2.1 x.2.1 x.2.2.1) (fun c=>(fun t11 k0 k1 b2 b3 b4 b5=>c 11 EL.cR rfl (((),(),(),(),(),t11,()),(k0,k1,(b2,()),(b3,()),(b4,()),(b5,()),())),())) EL.kS (by kernel_rfl)
def EW.k (ahead n:Int) (k0:CK) (k1:CT):R2 Int CK CT:=
 ci (ahead<0) (Ac n k0 k1)<|
 (Ba.k 15 ahead n ((-1)) 0 [] k0 k1).bind BP
def EW.Kc:=kd 171 EW.p fun x=>EW.k x.1.2.1 x.1.2.2.1 x.2.1 x.2.2.1
theorem EW.Kh:EW.Kc.Holds prog:=kh AH (hc Ba.Kh hn) EW.ok (by kernel_rfl)
def Dh.k (l:Dop.Ae) (n:Int) (k0:CK) (k1:CT):R2 Int CK CT:=
 ci (l.left=1) ((Hm.k l.at_ n k0 k1).bind BP)<|
 (Ba.k 5 l.at_ n ((-1)) 0 [] k0 k1).bind BP
def Dh.Kc:=kd 108 Dh.p fun x=>Dh.k x.1.2.1 x.1.2.2.1 x.2.1 x.2.2.1
theorem Dh.Kh:Dh.Kc.Holds prog:=kh AH (hc Hm.Kh (hc Ba.Kh hn)) Dh.ok (by kernel_rfl)
def NM.k :HH (List (List UInt8×Dop.Lb)):=
 Ez (B4 (B4 (B4 (B4 (B4 (B4 (B4 (B4 (B4 (B4 (B4 (B4 (B4 (B4 (B4 (B4 (([]:List (List UInt8×Dop.Lb))) ([43]:List UInt8) (Dop.Lb.mk 1 1)) ([45]:List UInt8) (Dop.Lb.mk 2 2)) ([42]:List UInt8) (Dop.Lb.mk 3 3)) ([47]:List UInt8) (Dop.Lb.mk 4 6)) ([37]:List UInt8) (Dop.Lb.mk 5 7)) ([38]:List UInt8) (Dop.Lb.mk 8 8)) ([124]:List UInt8) (Dop.Lb.mk 9 9)) ([94]:List UInt8) (Dop.Lb.mk 10 10)) ([60,60]:List UInt8) (Dop.Lb.mk 11 11)) ([62,62]:List UInt8) (Dop.Lb.mk 12 13)) ([61,61]:List UInt8) (Dop.Lb.mk 14 14)) ([33,61]:List UInt8) (Dop.Lb.mk 15 15)) ([60]:List UInt8) (Dop.Lb.mk 16 18)) ([60,61]:List UInt8) (Dop.Lb.mk 17 19)) ([62]:List UInt8) (Dop.Lb.mk 16 18)) ([62,61]:List UInt8) (Dop.Lb.mk 17 19))
def NM.Kc:=kd 166 NM.p fun x=>NM.k
theorem NM.Kh:NM.Kc.Holds prog:=kh AH hn NM.ok (by kernel_rfl)
def Km.k (l:Dop.Ae) (at_:Int) (k0:CK) (k1:CT):WS Int Dop.Ae CK CT:=
 ci (!(l.left=2)) (Rf (-1) l k0 k1)<|
 (I7.k at_ k0 k1).bind fun y3=>
 (Hm.k y3.1.1 l.at_ y3.2.1 y3.2.2.1).bind fun y4=>
 (EK.k y3.1.1 y4.2.1 y4.2.2.1).bind fun y5=>
 (EK.k y3.1.1 y5.2.1 y5.2.2.1).bind fun y6=>
 (Kl.k y6.1.1 y6.2.1 y6.2.2.1).bind fun y7=>
 Rf y4.1.1 (Dop.Ae.mk y7.1.1 l.BB 2 y5.1.1 false) y7.2.1 y7.2.2.1
def Km.Kc:=kd 170 Km.p fun x=>Km.k x.1.2.1 x.1.2.2.1 x.2.1 x.2.2.1
theorem Km.Kh:Km.Kc.Holds prog:=kh AH (hc I7.Kh (hc Hm.Kh (hc EK.Kh (hc Kl.Kh hn)))) Km.ok (by kernel_rfl)
abbrev Pu.T:Type:=List UInt8->Int->Bool->Bool->CK->CT->Dop.Ae->Dop.Ae->Dop.Ae->R2 Dop.Ae CK CT
abbrev Ly.T:Type:=List UInt8->Int->Bool->Bool->Bool->Int->CK->CT->Dop.Ae->Dop.Ae->Dop.Ae->Dop.Lb->R2 Dop.Ae CK CT
abbrev Lz.T:Type:=List UInt8->Int->CK->CT->Dop.Ae->Dop.Ae->Dop.Ae->Dop.Lb->R2 Dop.Ae CK CT
abbrev L0.T:Type:=List UInt8->Int->Bool->Bool->Int->CK->CT->Dop.Ae->Dop.Ae->Dop.Ae->Dop.Lb->R2 Dop.Ae CK CT
abbrev L1.T:Type:=List UInt8->Int->Int->CK->CT->Dop.Ae->Dop.Ae->Dop.Ae->Dop.Lb->R2 Dop.Ae CK CT
abbrev Bl.KT:Type:=Pu.T×Ly.T×Lz.T×L0.T×L1.T×Unit
def Pu.kB (tK:Bl.KT):Pu.T:=fun t1 t4 t11 t12 k0 k1 b2 b3 b4=>
 (NM.k).bind fun y2=>
 ck (([32]:List UInt8).length+t1.length<=9223372036854775807)<|
 ck (((32:UInt8)::[]++t1).length+([32]:List UInt8).length<=9223372036854775807)<|
 ck (Vs ([32,61,61,32,33,61,32,60,32,60,61,32,62,32,62,61,32]:List UInt8))<|
 (Ju.k b2.BB k0 k1).bind fun y3=>
 ci y3.1.1 (ci (!(t1=(62:UInt8)::(62:UInt8)::[])) (tK.2.1 t1 t4 t11 t12 (Lib.contains ([32,61,61,32,33,61,32,60,32,60,61,32,62,32,62,61,32]:List UInt8) ((32:UInt8)::[]++t1++(32:UInt8)::[])) 1 y3.2.1 y3.2.2.1 b2 b3 b4 ((AM y2.1.1 t1).getD Dop.d14))<|
 (Ju.k b2.BB y3.2.1 y3.2.2.1).bind fun y6=>
 ci y6.1.1 (tK.2.1 t1 t4 t11 t12 (Lib.contains ([32,61,61,32,33,61,32,60,32,60,61,32,62,32,62,61,32]:List UInt8) ((32:UInt8)::[]++t1++(32:UInt8)::[])) 1 y6.2.1 y6.2.2.1 b2 b3 b4 ((AM y2.1.1 t1).getD Dop.d14))<|
 tK.2.1 t1 t4 t11 t12 (Lib.contains ([32,61,61,32,33,61,32,60,32,60,61,32,62,32,62,61,32]:List UInt8) ((32:UInt8)::[]++t1++(32:UInt8)::[])) 0 y6.2.1 y6.2.2.1 b2 b3 b4 ((AM y2.1.1 t1).getD Dop.d14))<|
 (Ju.k b3.BB y3.2.1 y3.2.2.1).bind fun y5=>
 ci y5.1.1 (ci (!(t1=(62:UInt8)::(62:UInt8)::[])) (tK.2.1 t1 t4 t11 t12 (Lib.contains ([32,61,61,32,33,61,32,60,32,60,61,32,62,32,62,61,32]:List UInt8) ((32:UInt8)::[]++t1++(32:UInt8)::[])) 1 y5.2.1 y5.2.2.1 b2 b3 b4 ((AM y2.1.1 t1).getD Dop.d14))<|
 (Ju.k b2.BB y5.2.1 y5.2.2.1).bind fun y8=>
 ci y8.1.1 (tK.2.1 t1 t4 t11 t12 (Lib.contains ([32,61,61,32,33,61,32,60,32,60,61,32,62,32,62,61,32]:List UInt8) ((32:UInt8)::[]++t1++(32:UInt8)::[])) 1 y8.2.1 y8.2.2.1 b2 b3 b4 ((AM y2.1.1 t1).getD Dop.d14))<|
 tK.2.1 t1 t4 t11 t12 (Lib.contains ([32,61,61,32,33,61,32,60,32,60,61,32,62,32,62,61,32]:List UInt8) ((32:UInt8)::[]++t1++(32:UInt8)::[])) 0 y8.2.1 y8.2.2.1 b2 b3 b4 ((AM y2.1.1 t1).getD Dop.d14))<|
 tK.2.1 t1 t4 t11 t12 (Lib.contains ([32,61,61,32,33,61,32,60,32,60,61,32,62,32,62,61,32]:List UInt8) ((32:UInt8)::[]++t1++(32:UInt8)::[])) 0 y5.2.1 y5.2.2.1 b2 b3 b4 ((AM y2.1.1 t1).getD Dop.d14)
def Ly.kB (tK:Bl.KT):Ly.T:=fun t1 t4 t11 t12 t14 t16 k0 k1 b2 b3 b4 b5=>
 let A1:=(Aw.k 8 t4 k0 k1).bind BP
 ci t14 (ci (!t11 == t12) (ci t11 (ci (!b3.zero) (ci t12 (ci (!b2.zero) A1<|
 ci t11 (ci t12 (ci (!(b2.BB=b3.BB)) A1<|
 tK.2.2.1 t1 t16 k0 k1 b2 b3 b4 b5)<|
 tK.2.2.1 t1 t16 k0 k1 b2 b3 b4 b5)<|
 tK.2.2.1 t1 t16 k0 k1 b2 b3 b4 b5)<|
 (Aw.k 8 t4 k0 k1).bind BP)<|
 ci t11 (ci t12 (ci (!(b2.BB=b3.BB)) A1<|
 tK.2.2.1 t1 t16 k0 k1 b2 b3 b4 b5)<|
 tK.2.2.1 t1 t16 k0 k1 b2 b3 b4 b5)<|
 tK.2.2.1 t1 t16 k0 k1 b2 b3 b4 b5)<|
 ci t12 (ci (!b2.zero) A1<|
 ci t11 (ci t12 (ci (!(b2.BB=b3.BB)) A1<|
 tK.2.2.1 t1 t16 k0 k1 b2 b3 b4 b5)<|
 tK.2.2.1 t1 t16 k0 k1 b2 b3 b4 b5)<|
 tK.2.2.1 t1 t16 k0 k1 b2 b3 b4 b5)<|
 (Aw.k 8 t4 k0 k1).bind BP)<|
 ci t11 (ci t12 (ci (!(b2.BB=b3.BB)) A1<|
 tK.2.2.1 t1 t16 k0 k1 b2 b3 b4 b5)<|
 tK.2.2.1 t1 t16 k0 k1 b2 b3 b4 b5)<|
 tK.2.2.1 t1 t16 k0 k1 b2 b3 b4 b5)<|
 tK.2.2.2.1 t1 t4 t11 t12 t16 k0 k1 b2 b3 b4 b5
def Lz.kB (tK:Bl.KT):Lz.T:=fun t1 t16 k0 k1 b2 b3 b4 b5=>
 ci (t1=(62:UInt8)::[]) (ck (0<=t16/\t16<I 2)<|
 ck (t16.toNat<(b5.x0::b5.x1::[]).length)<|
 (Cq.k ((b5.x0::b5.x1::[]).getD t16.toNat 0) b3.n b2.n k0 k1).bind fun y3=>
 Ac (Dop.Ae.mk y3.1.1 1 0 0 false) y3.2.1 y3.2.2.1)<|
 ci (t1=(62:UInt8)::(61:UInt8)::[]) (ck (0<=t16/\t16<I 2)<|
 ck (t16.toNat<(b5.x0::b5.x1::[]).length)<|
 (Cq.k ((b5.x0::b5.x1::[]).getD t16.toNat 0) b3.n b2.n k0 k1).bind fun y4=>
 Ac (Dop.Ae.mk y4.1.1 1 0 0 false) y4.2.1 y4.2.2.1)<|
 ck (0<=t16/\t16<I 2)<|
 ck (t16.toNat<(b5.x0::b5.x1::[]).length)<|
 (Cq.k ((b5.x0::b5.x1::[]).getD t16.toNat 0) b2.n b3.n k0 k1).bind fun y4=>
 Ac (Dop.Ae.mk y4.1.1 1 0 0 false) y4.2.1 y4.2.2.1
def L0.kB (tK:Bl.KT):L0.T:=fun t1 t4 t11 t12 t16 k0 k1 b2 b3 b4 b5=>
 let A4:=G0.k b2.BB b3.BB k0 k1
 let A3:=F8.k b3.BB k0 k1
 let A2:=F8.k b2.BB k0 k1
 let A1:=(Aw.k 8 t4 k0 k1).bind BP
 let z1:R2 Dop.Ae CK CT:=
 ci (!(t1=(43:UInt8)::[])) (ci (!(t1=(45:UInt8)::[])) A1<|
 ci t12 A1<|
 ci t11 (A2.bind fun y9=>
 ck ((0:Int)<=0/\0<I 2)<|
 (GU.k b3.n y9.1.2.1 y9.2.1 y9.2.2.1).bind fun y10=>
 (Cq.k b5.x0 b2.n y10.1.1 y10.2.1 y10.2.2.1).bind fun y11=>
 Ac (Dop.Ae.mk y11.1.1 b2.BB 0 0 false) y11.2.1 y11.2.2.1)<|
 A3.bind fun y9=>
 ck ((0:Int)<=0/\0<I 2)<|
 (GU.k b2.n y9.1.2.1 y9.2.1 y9.2.2.1).bind fun y10=>
 (Cq.k b5.x0 y10.1.1 b3.n y10.2.1 y10.2.2.1).bind fun y11=>
 Ac (Dop.Ae.mk y11.1.1 b3.BB 0 0 false) y11.2.1 y11.2.2.1)<|
 ci t11 (A2.bind fun y7=>
 ck ((0:Int)<=0/\0<I 2)<|
 (GU.k b3.n y7.1.2.1 y7.2.1 y7.2.2.1).bind fun y8=>
 (Cq.k b5.x0 b2.n y8.1.1 y8.2.1 y8.2.2.1).bind fun y9=>
 Ac (Dop.Ae.mk y9.1.1 b2.BB 0 0 false) y9.2.1 y9.2.2.1)<|
 A3.bind fun y7=>
 ck ((0:Int)<=0/\0<I 2)<|
 (GU.k b2.n y7.1.2.1 y7.2.1 y7.2.2.1).bind fun y8=>
 (Cq.k b5.x0 y8.1.1 b3.n y8.2.1 y8.2.2.1).bind fun y9=>
 Ac (Dop.Ae.mk y9.1.1 b3.BB 0 0 false) y9.2.1 y9.2.2.1
 let z2:R2 Dop.Ae CK CT:=
 ci t11 (A2.bind fun y8=>
 ck ((0:Int)<=0/\0<I 2)<|
 (GU.k b3.n y8.1.2.1 y8.2.1 y8.2.2.1).bind fun y9=>
 (Cq.k b5.x0 b2.n y9.1.1 y9.2.1 y9.2.2.1).bind fun y10=>
 Ac (Dop.Ae.mk y10.1.1 b2.BB 0 0 false) y10.2.1 y10.2.2.1)<|
 A3.bind fun y8=>
 ck ((0:Int)<=0/\0<I 2)<|
 (GU.k b2.n y8.1.2.1 y8.2.1 y8.2.2.1).bind fun y9=>
 (Cq.k b5.x0 y9.1.1 b3.n y9.2.1 y9.2.2.1).bind fun y10=>
 Ac (Dop.Ae.mk y10.1.1 b3.BB 0 0 false) y10.2.1 y10.2.2.1
 ci t11 (ci t12 (A2.bind fun y4=>
 ci (!(t1=(45:UInt8)::[])) ((Aw.k 8 t4 y4.2.1 y4.2.2.1).bind BP)<|
 ci (!(b2.BB=b3.BB)) ((Aw.k 8 t4 y4.2.1 y4.2.2.1).bind BP)<|
 (Cq.k 2 b2.n b3.n y4.2.1 y4.2.2.1).bind fun y7=>
 ci (y4.1.2.1=1) (Ac (Dop.Ae.mk y7.1.1 1 0 0 false) y7.2.1 y7.2.2.1)<|
 (Eu.k y4.1.2.1 y7.2.1 y7.2.2.1).bind fun y9=>
 (Cq.k 4 y7.1.1 y9.1.1 y9.2.1 y9.2.2.1).bind fun y10=>
 Ac (Dop.Ae.mk y10.1.1 1 0 0 false) y10.2.1 y10.2.2.1)<|
 ci t11 (z1)<|
 ci t12 (ci (!(t1=(43:UInt8)::[])) (ci (!(t1=(45:UInt8)::[])) A1<|
 ci t12 A1<|
 ci t11 (A2.bind fun y10=>
 ck ((0:Int)<=0/\0<I 2)<|
 (GU.k b3.n y10.1.2.1 y10.2.1 y10.2.2.1).bind fun y11=>
 (Cq.k b5.x0 b2.n y11.1.1 y11.2.1 y11.2.2.1).bind fun y12=>
 Ac (Dop.Ae.mk y12.1.1 b2.BB 0 0 false) y12.2.1 y12.2.2.1)<|
 A3.bind fun y10=>
 ck ((0:Int)<=0/\0<I 2)<|
 (GU.k b2.n y10.1.2.1 y10.2.1 y10.2.2.1).bind fun y11=>
 (Cq.k b5.x0 y11.1.1 b3.n y11.2.1 y11.2.2.1).bind fun y12=>
 Ac (Dop.Ae.mk y12.1.1 b3.BB 0 0 false) y12.2.1 y12.2.2.1)<|
 z2)<|
 A4.bind fun y6=>
 tK.2.2.2.2.1 t1 t16 y6.1.1 y6.2.1 y6.2.2.1 b2 b3 b4 b5)<|
 ci t11 (ci (!(t1=(43:UInt8)::[])) (ci (!(t1=(45:UInt8)::[])) A1<|
 ci t12 A1<|
 z2)<|
 ci t11 (A2.bind fun y6=>
 ck ((0:Int)<=0/\0<I 2)<|
 (GU.k b3.n y6.1.2.1 y6.2.1 y6.2.2.1).bind fun y7=>
 (Cq.k b5.x0 b2.n y7.1.1 y7.2.1 y7.2.2.1).bind fun y8=>
 Ac (Dop.Ae.mk y8.1.1 b2.BB 0 0 false) y8.2.1 y8.2.2.1)<|
 A3.bind fun y6=>
 ck ((0:Int)<=0/\0<I 2)<|
 (GU.k b2.n y6.1.2.1 y6.2.1 y6.2.2.1).bind fun y7=>
 (Cq.k b5.x0 y7.1.1 b3.n y7.2.1 y7.2.2.1).bind fun y8=>
 Ac (Dop.Ae.mk y8.1.1 b3.BB 0 0 false) y8.2.1 y8.2.2.1)<|
 ci t12 (z1)<|
 A4.bind fun y5=>
 tK.2.2.2.2.1 t1 t16 y5.1.1 y5.2.1 y5.2.2.1 b2 b3 b4 b5
def L1.kB (tK:Bl.KT):L1.T:=fun t1 t16 t24 k0 k1 b2 b3 b4 b5=>
 let A1:=G0.k b2.BB b2.BB k0 k1
 ci (t1=(60:UInt8)::(60:UInt8)::[]) (A1.bind fun y3=>
 ci (t1=(62:UInt8)::(62:UInt8)::[]) (ci (y3.1.1=2) (ck ((0:Int)<=1/\1<I 2)<|
 ck (Int.toNat 1<(b5.x0::b5.x1::[]).length)<|
 (Cq.k ((b5.x0::b5.x1::[]).getD (Int.toNat 1) 0) b2.n b3.n y3.2.1 y3.2.2.1).bind fun y6=>
 Ac (Dop.Ae.mk y6.1.1 y3.1.1 0 0 false) y6.2.1 y6.2.2.1)<|
 ck (0<=t16/\t16<I 2)<|
 ck (t16.toNat<(b5.x0::b5.x1::[]).length)<|
 (Cq.k ((b5.x0::b5.x1::[]).getD t16.toNat 0) b2.n b3.n y3.2.1 y3.2.2.1).bind fun y6=>
 Ac (Dop.Ae.mk y6.1.1 y3.1.1 0 0 false) y6.2.1 y6.2.2.1)<|
 ck (0<=t16/\t16<I 2)<|
 ck (t16.toNat<(b5.x0::b5.x1::[]).length)<|
 (Cq.k ((b5.x0::b5.x1::[]).getD t16.toNat 0) b2.n b3.n y3.2.1 y3.2.2.1).bind fun y5=>
 Ac (Dop.Ae.mk y5.1.1 y3.1.1 0 0 false) y5.2.1 y5.2.2.1)<|
 ci (t1=(62:UInt8)::(62:UInt8)::[]) (A1.bind fun y4=>
 ci (t1=(62:UInt8)::(62:UInt8)::[]) (ci (y4.1.1=2) (ck ((0:Int)<=1/\1<I 2)<|
 ck (Int.toNat 1<(b5.x0::b5.x1::[]).length)<|
 (Cq.k ((b5.x0::b5.x1::[]).getD (Int.toNat 1) 0) b2.n b3.n y4.2.1 y4.2.2.1).bind fun y7=>
 Ac (Dop.Ae.mk y7.1.1 y4.1.1 0 0 false) y7.2.1 y7.2.2.1)<|
 ck (0<=t16/\t16<I 2)<|
 ck (t16.toNat<(b5.x0::b5.x1::[]).length)<|
 (Cq.k ((b5.x0::b5.x1::[]).getD t16.toNat 0) b2.n b3.n y4.2.1 y4.2.2.1).bind fun y7=>
 Ac (Dop.Ae.mk y7.1.1 y4.1.1 0 0 false) y7.2.1 y7.2.2.1)<|
 ck (0<=t16/\t16<I 2)<|
 ck (t16.toNat<(b5.x0::b5.x1::[]).length)<|
 (Cq.k ((b5.x0::b5.x1::[]).getD t16.toNat 0) b2.n b3.n y4.2.1 y4.2.2.1).bind fun y6=>
 Ac (Dop.Ae.mk y6.1.1 y4.1.1 0 0 false) y6.2.1 y6.2.2.1)<|
 ci (t1=(62:UInt8)::(62:UInt8)::[]) (ci (t24=2) (ck ((0:Int)<=1/\1<I 2)<|
 ck (Int.toNat 1<(b5.x0::b5.x1::[]).length)<|
 (Cq.k ((b5.x0::b5.x1::[]).getD (Int.toNat 1) 0) b2.n b3.n k0 k1).bind fun y6=>
 Ac (Dop.Ae.mk y6.1.1 t24 0 0 false) y6.2.1 y6.2.2.1)<|
 ck (0<=t16/\t16<I 2)<|
 ck (t16.toNat<(b5.x0::b5.x1::[]).length)<|
 (Cq.k ((b5.x0::b5.x1::[]).getD t16.toNat 0) b2.n b3.n k0 k1).bind fun y6=>
 Ac (Dop.Ae.mk y6.1.1 t24 0 0 false) y6.2.1 y6.2.2.1)<|
 ck (0<=t16/\t16<I 2)<|
 ck (t16.toNat<(b5.x0::b5.x1::[]).length)<|
 (Cq.k ((b5.x0::b5.x1::[]).getD t16.toNat 0) b2.n b3.n k0 k1).bind fun y5=>
 Ac (Dop.Ae.mk y5.1.1 t24 0 0 false) y5.2.1 y5.2.2.1
def Bl.kS (tK:Bl.KT):Bl.KT:=(Pu.kB tK,Ly.kB tK,Lz.kB tK,L0.kB tK,L1.kB tK,())
def Bl.kL (n:Nat):Bl.KT:=C5 Bl.kS n
def Bl.k0 (tK:Bl.KT) (t1:List UInt8) (t2 t3:Dop.Ae) (t4:Int) (k0:CK) (k1:CT):R2 Dop.Ae CK CT:=
 ci (!(k0.e=0)) (Ac (Dop.Ae.mk (-1) 1 0 0 false) k0 k1)<|
 (Cu.k t2.BB k0 k1).bind fun y3=>
 (Cu.k t3.BB y3.2.1 y3.2.2.1).bind fun y4=>
 tK.1 t1 t4 (decide (y3.1.1=4)) (decide (y4.1.1=4)) y4.2.1 y4.2.2.1 t2 t3 (Dop.Ae.mk 0 0 0 0 false)
def Bl.k (t1:List UInt8) (t2 t3:Dop.Ae) (t4:Int) (k0:CK) (k1:CT):R2 Dop.Ae CK CT:=Bl.k0 (Bl.kL 1000000) t1 t2 t3 t4 k0 k1
def Bl.Kc:=kd 132 Bl.p fun x=>Bl.k x.1.2.1 x.1.2.2.1 x.1.2.2.2.1 x.1.2.2.2.2.1 x.2.1 x.2.2.1
theorem Bl.Kh:Bl.Kc.Holds prog:=GB AH (hc Cu.Kh (hc NM.Kh (hc contains.holds (hc Ju.Kh (hc Aw.Kh (hc Cq.Kh (hc F8.Kh (hc Eu.Kh (hc GU.Kh (hc G0.Kh hn)))))))))) Bl.ok (fun t x=>Bl.k0 t x.1.2.1 x.1.2.2.1 x.1.2.2.2.1 x.1.2.2.2.2.1 x.2.1 x.2.2.1) (fun c=>(fun t1 t4 t11 t12 k0 k1 b2 b3 b4=>c 4 Bl.q4 rfl (((),t1,t4,(),(),(),t11,t12,()),(k0,k1,(b2,()),(b3,()),(b4,()),())),fun t1 t4 t11 t12 t14 t16 k0 k1 b2 b3 b4 b5=>c 10 Bl.Us rfl (((),t1,t4,(),(),(),t11,t12,(),t14,t16,()),(k0,k1,(b2,()),(b3,()),(b4,()),(b5,()),())),fun t1 t16 k0 k1 b2 b3 b4 b5=>c 13 Bl.Zd rfl (((),t1,(),(),(),(),t16,()),(k0,k1,(b2,()),(b3,()),(b4,()),(b5,()),())),fun t1 t4 t11 t12 t16 k0 k1 b2 b3 b4 b5=>c 16 Bl.eu rfl (((),t1,t4,(),(),(),t11,t12,(),t16,()),(k0,k1,(b2,()),(b3,()),(b4,()),(b5,()),())),fun t1 t16 t24 k0 k1 b2 b3 b4 b5=>c 33 Bl.nI rfl (((),t1,(),(),(),(),t16,t24,()),(k0,k1,(b2,()),(b3,()),(b4,()),(b5,()),())),())) Bl.kS (by kernel_rfl)
end
end Go.Proofs.Tryz
