/-
 Functions in plain words (what their equations say), and their contracts. Written by a program.
-/
import Derived.Test.YtkpggdcpaeanaaaGreatDoorMt
import Derived.Test.YtkpggdcpaeanaaaGreatDoorMp
set_option linter.all false
set_option maxRecDepth 100000
set_option maxHeartbeats 4000000
namespace Go.Proofs.Tryz
open Go Go.En
noncomputable section
def XJ.k (f:Dop.DR) (b0:List UInt8):R1 Bool (List UInt8×Unit):=
 CS (decide (f.name=b0)) (b0,())
def XJ.Kc:=kd 55 XJ.p fun x=>XJ.k x.1.1 x.2.1.1
theorem XJ.Kh:XJ.Kc.Holds prog:=kh AH hn XJ.ok (by kernel_rfl)
abbrev Jj.T:Type:=List Dop.DR->Int->Int->List UInt8->R1 Int (List UInt8×Unit)
abbrev BP.KT:Type:=Jj.T×Unit
def Jj.kB (tK:BP.KT):Jj.T:=fun s t7 t8 b0=>
 ci (t8<t7) (ck (0<=t8/\t8<I s.length)<|
 (XJ.k (List.getD s t8.toNat Dop.d11) b0).bind fun y3=>
 ci y3.1.1 (CS t8 (y3.2.1.1,()))<|
 ck (Ap (t8+1))<|
 tK.1 s t7 (t8+1) y3.2.1.1)<|
 CS (-1) (b0,())
def BP.kS (tK:BP.KT):BP.KT:=(Jj.kB tK,())
def BP.kL (n:Nat):BP.KT:=Cv BP.kS n
def BP.k0 (tK:BP.KT) (s:List Dop.DR) (b0:List UInt8):R1 Int (List UInt8×Unit):=
 tK.1 s (I s.length) 0 b0
def BP.k (s:List Dop.DR) (b0:List UInt8):R1 Int (List UInt8×Unit):=BP.k0 (BP.kL 1000000) s b0
def BP.Kc:=kd 54 BP.p fun x=>BP.k x.1.1 x.2.1.1
theorem BP.Kh:BP.Kc.Holds prog:=E7 AH (hc XJ.Kh hn) BP.ok (fun t x=>BP.k0 t x.1.1 x.2.1.1) (fun c=>(fun s t7 t8 b0=>c 2 BP.q2 rfl ((s,(),t7,t8,()),((b0,()),())),())) BP.kS (by kernel_rfl)
def Tl.k (p:Dop.Jy) (name:List UInt8):F8 Int:=
 (BP.k p.funcs name).bind kM
def Tl.Kc:=kd 25 Tl.p fun x=>Tl.k x.1.1 x.1.2.1
theorem Tl.Kh:Tl.Kc.Holds prog:=kh AH (hc BP.Kh hn) Tl.ok (by kernel_rfl)
def Mx.k (end_ code:Int) (k0:ER):R1 Int ER:=
 ci (k0.end_=0) (CS 0 (ER.dU (ER.dV k0 end_) code))<|
 CS 0 k0
def Mx.Kc:=kd 65 Mx.p fun x=>Mx.k x.1.2.1 x.1.2.2.1 x.2.1
theorem Mx.Kh:Mx.Kc.Holds prog:=kh AH hn Mx.ok (by kernel_rfl)
def Mp.k (p:Dop.Jy) (n:Int):F8 Dop.AR:=
 let A1:=ED (Dop.AR.mk 0 (-1) (-1) (-1) (-1) [] 0 0 0)
 ci (n<0) A1<|
 ci (I p.nodes.length<=n) A1<|
 ck (0<=n/\n<I p.nodes.length)<|
 ED (List.getD p.nodes n.toNat Dop.d5)
def Mp.Kc:=kd 152 Mp.p fun x=>Mp.k x.1.1 x.1.2.1
theorem Mp.Kh:Mp.Kc.Holds prog:=kh AH hn Mp.ok (by kernel_rfl)
abbrev PI.T:Type:=Int->List Int->Int->Int->Dop.Jy->F8 (List Int)
abbrev DL.KT:Type:=PI.T×Unit
def PI.kB (tK:DL.KT):PI.T:=fun n out t9 t10 b0=>
 ci (t10<t9) ((Mp.k b0 n).bind fun y3=>
 ci (!(y3.1.1.kind=20)) (ED out)<|
 ck (Cc none (room 8 (out.length+(y3.1.1.a::[]).length)))<|
 ck (Ap (t10+1))<|
 tK.1 y3.1.1.b (out++y3.1.1.a::[]) t9 (t10+1) b0)<|
 ED out
def DL.kS (tK:DL.KT):DL.KT:=(PI.kB tK,())
def DL.kL (n:Nat):DL.KT:=Cv DL.kS n
def DL.k0 (tK:DL.KT) (p:Dop.Jy) (n:Int):F8 (List Int):=
 tK.1 n [] (I p.nodes.length) 0 p
def DL.k (p:Dop.Jy) (n:Int):F8 (List Int):=DL.k0 (DL.kL 1000000) p n
def DL.Kc:=kd 114 DL.p fun x=>DL.k x.1.1 x.1.2.1
theorem DL.Kh:DL.Kc.Holds prog:=E7 AH (hc Mp.Kh hn) DL.ok (fun t x=>DL.k0 t x.1.1 x.1.2.1) (fun c=>(fun n out t9 t10 b0=>c 3 DL.q3 rfl ((n,(),out,t9,t10,()),((b0,()),())),())) DL.kS (by kernel_rfl)
abbrev Bg.kr (r:Ct.T) (t1:Int) (k0:ER) (k1:EF):R2 Bool ER EF:=r.1 (((),t1,(),()),(k0,k1,()))
abbrev Cp.kr (r:Ct.T) (s:List Int) (k1:ER) (k3:EF):Option ((Bool×Unit)×((Unit×Unit)×ER×(Unit×Unit)×EF×Unit)):=r.2.1 ((s,(),()),(((),()),k1,((),()),k3,()))
abbrev Ah.kr (r:Ct.T) (s:List Int) (k1:ER) (k3:EF):Option ((Int×Unit)×((Unit×Unit)×ER×(Unit×Unit)×EF×Unit)):=r.2.2.1 ((s,(),()),(((),()),k1,((),()),k3,()))
abbrev K6.kr (r:Ct.T) (s:Int) (k1:ER) (k3:EF):Option ((Bool×Unit)×((Unit×Unit)×ER×(Unit×Unit)×EF×Unit)):=r.2.2.2.1 ((s,(),(),()),(((),()),k1,((),()),k3,()))
abbrev PM.T:Type:=ER->EF->Dop.AR->R2 Bool ER EF
abbrev LZ.T:Type:=Int->ER->EF->Dop.AR->R2 Bool ER EF
abbrev Bg.KT:Type:=PM.T×LZ.T×Unit
def PM.kB (rK:Ct.T) (tK:Bg.KT):PM.T:=fun k0 k1 b4=>
 let A1:=Bg.kr rK b4.a k0 k1
 ci (k1.GV=2) (ci (b4.kind=41) (ci (b4.n=k1.key) (AV true k0 k1)<|
 ci (k1.GV=3) (ci (b4.kind=42) (AV true k0 k1)<|
 A1.bind A7)<|
 A1.bind A7)<|
 ci (k1.GV=3) (ci (b4.kind=42) (AV true k0 k1)<|
 A1.bind A7)<|
 A1.bind A7)<|
 ci (k1.GV=3) (ci (b4.kind=42) (AV true k0 k1)<|
 A1.bind A7)<|
 A1.bind A7
def LZ.kB (rK:Ct.T) (tK:Bg.KT):LZ.T:=fun t19 k0 k1 b4=>
 let A1:=Bg.kr rK b4.b k0 k1
 let z1:R2 Bool ER EF:=
 ci (t19=34) ((Bg.kr rK b4.d k0 k1).bind A7)<|
 ci (t19=43) ((DL.k k0.p b4.a).bind fun y8=>
 (Cp.kr rK y8.1.1 k0 k1).bind fun y9=>
 AV y9.1.1 y9.2.2.1 y9.2.2.2.2.1)<|
 AV false k0 k1
 ci (t19=40) (ci (k1.GV=1) (A1.bind A7)<|
 AV false k0 k1)<|
 ci (t19=31) (A1.bind fun y4=>
 ci y4.1.1 (AV true y4.2.1 y4.2.2.1)<|
 (Bg.kr rK b4.c y4.2.1 y4.2.2.1).bind A7)<|
 ci (t19=32) (ci (t19=32) (A1.bind A7)<|
 z1)<|
 ci (t19=33) (A1.bind A7)<|
 z1
def Bg.kS (rK:Ct.T) (tK:Bg.KT):Bg.KT:=(PM.kB rK tK,LZ.kB rK tK,())
def Bg.kL (rK:Ct.T) (n:Nat):Bg.KT:=Cv (Bg.kS rK) n
def Bg.k0 (rK:Ct.T) (tK:Bg.KT) (t1:Int) (k0:ER) (k1:EF):R2 Bool ER EF:=
 let A1:=List.getD k0.p.nodes t1.toNat Dop.d5
 let A2:=Bg.kr rK (A1.a) k0 k1
 ci (t1<0) (AV false k0 k1)<|
 ck (0<=t1/\t1<I k0.p.nodes.length)<|
 ci (A1.kind=39) (ci (k1.GV=1) (ci (A1.text=k1.ko) (AV true k0 k1)<|
 A2.bind A7)<|
 A2.bind A7)<|
 ci (A1.kind=41) (ci (A1.kind=41) (tK.1 k0 k1 A1)<|
 tK.2.1 (A1.kind) k0 k1 A1)<|
 ci (A1.kind=42) (tK.1 k0 k1 A1)<|
 tK.2.1 (A1.kind) k0 k1 A1
def Bg.kf (rK:Ct.T) (t1:Int) (k0:ER) (k1:EF):R2 Bool ER EF:=Bg.k0 rK (Bg.kL rK 1000000) t1 k0 k1
def Cp.kf (rK:Ct.T) (s:List Int) (k1:ER) (k3:EF):Option ((Bool×Unit)×((Unit×Unit)×ER×(Unit×Unit)×EF×Unit)):=
 (Ah.kr rK s k1 k3).bind fun y2=>
 some ((decide (0<=y2.1.1),()),(((),()),(y2.2.2.1,(((),()),(y2.2.2.2.2.1,())))))
abbrev Gt.T:Type:=List Int->Int->Int->ER->EF->Option ((Int×Unit)×((Unit×Unit)×ER×(Unit×Unit)×EF×Unit))
abbrev Ah.KT:Type:=Gt.T×Unit
def Gt.kB (rK:Ct.T) (tK:Ah.KT):Gt.T:=fun s t7 t8 k1 k3=>
 ci (t8<t7) (ck (0<=t8/\t8<I s.length)<|
 ck (t8.toNat<s.length)<|
 (K6.kr rK (List.getD s t8.toNat 0) k1 k3).bind fun y3=>
 ci y3.1.1 (some ((t8,()),(((),()),(y3.2.2.1,(((),()),(y3.2.2.2.2.1,()))))))<|
 ck (Ap (t8+1))<|
 tK.1 s t7 (t8+1) y3.2.2.1 y3.2.2.2.2.1)<|
 some (((-1),()),(((),()),(k1,(((),()),(k3,())))))
def Ah.kS (rK:Ct.T) (tK:Ah.KT):Ah.KT:=(Gt.kB rK tK,())
def Ah.kL (rK:Ct.T) (n:Nat):Ah.KT:=Cv (Ah.kS rK) n
def Ah.k0 (rK:Ct.T) (tK:Ah.KT) (s:List Int) (k1:ER) (k3:EF):Option ((Int×Unit)×((Unit×Unit)×ER×(Unit×Unit)×EF×Unit)):=
 tK.1 s (I s.length) 0 k1 k3
def Ah.kf (rK:Ct.T) (s:List Int) (k1:ER) (k3:EF):Option ((Int×Unit)×((Unit×Unit)×ER×(Unit×Unit)×EF×Unit)):=Ah.k0 rK (Ah.kL rK 1000000) s k1 k3
def K6.kf (rK:Ct.T) (s:Int) (k1:ER) (k3:EF):Option ((Bool×Unit)×((Unit×Unit)×ER×(Unit×Unit)×EF×Unit)):=
 (Bg.kr rK s k1 k3).bind fun y2=>
 some ((y2.1.1,()),(((),()),(y2.2.1,(((),()),(y2.2.2.1,())))))
def Ct.kS (r:Ct.T):Ct.T:=(fun x=>Bg.kf r x.1.2.1 x.2.1 x.2.2.1,fun x=>Cp.kf r x.1.1 x.2.2.1 x.2.2.2.2.1,fun x=>Ah.kf r x.1.1 x.2.2.1 x.2.2.2.2.1,fun x=>K6.kf r x.1.1 x.2.2.1 x.2.2.2.2.1,())
def Ct.kR (n:Nat):Ct.T:=Cv Ct.kS n
def Bg.Kc (n:Nat):=kd 153 Bg.p (Ct.kR n).1
def Bg.Od:=Bg.Kc FU
def Bg.k:=Bg.kr (Ct.kR FU)
def Cp.Kc (n:Nat):=kd 183 Cp.p (Ct.kR n).2.1
def Ah.Kc (n:Nat):=kd 209 Ah.p (Ct.kR n).2.2.1
def K6.Kc (n:Nat):=kd 184 K6.p (Ct.kR n).2.2.2.1
def Ct.Re (n:Nat):List (CC Dop.D4):=[Bg.Kc n,Cp.Kc n,Ah.Kc n,K6.Kc n]
theorem Ct.E0: ∀ n,(Bg.Kc n).Holds prog/\(Cp.Kc n).Holds prog/\(Ah.Kc n).Holds prog/\(K6.Kc n).Holds prog/\True
 | 0=>⟨AN AH Bg.ok,AN AH Cp.ok,AN AH Ah.ok,AN AH K6.ok,trivial⟩
 | n+1=>by
  obtain ⟨h0,h1,h2,h3,_⟩:=Ct.E0 n
  have hh: ∀ c∈Ct.Re n,c.Holds prog:=(hc h0 (hc h1 (hc h2 (hc h3 hn))))
  exact ⟨E7 AH (Ac hh (hc DL.Kh hn)) Bg.ok (fun t x=>Bg.k0 (Ct.kR n) t x.1.2.1 x.2.1 x.2.2.1) (fun c=>(fun k0 k1 b4=>c 9 Bg.q9 rfl (((),(),(),()),(k0,k1,((),()),((),()),(b4,()),())),fun t19 k0 k1 b4=>c 10 Bg.UA rfl (((),(),(),t19,()),(k0,k1,((),()),((),()),(b4,()),())),())) (Bg.kS (Ct.kR n)) (by kernel_rfl),
   kh AH (Ac hh hn) Cp.ok (by kernel_rfl),
   E7 AH (Ac hh hn) Ah.ok (fun t x=>Ah.k0 (Ct.kR n) t x.1.1 x.2.2.1 x.2.2.2.2.1) (fun c=>(fun s t7 t8 k1 k3=>c 2 Ah.q2 rfl ((s,(),t7,t8,()),(((),()),k1,((),()),k3,())),())) (Ah.kS (Ct.kR n)) (by kernel_rfl),
   kh AH (Ac hh hn) K6.ok (by kernel_rfl),
   trivial⟩
theorem Bg.IL:Bg.Od.Holds prog:=(Ct.E0 FU).1
def FQ.k (k0:ER):R1 Bool ER:=
 ci (!(k0.end_=0)) (CS false k0)<|
 ci (k0.fuel=0) ((Mx.k 4 0 k0).bind fun y4=>
 CS false y4.2.1)<|
 ck (Ap (k0.fuel -1))<|
 CS true (ER.dW k0 (k0.fuel -1))
def FQ.Kc:=kd 117 FQ.p fun x=>FQ.k x.2.1
theorem FQ.Kh:FQ.Kc.Holds prog:=kh AH (hc Mx.Kh hn) FQ.ok (by kernel_rfl)
def GQ.k (n:Int):F8 Int:=
 ck (Ap (IntKind.u32.wrap n))<|
 ED (IntKind.u32.wrap n)
def GQ.Kc:=kd 255 GQ.p fun x=>GQ.k x.1.1
theorem GQ.Kh:GQ.Kc.Holds prog:=kh AH hn GQ.ok (by kernel_rfl)
def D6.k (n:Int):LI Int Bool:=
 (Ea.k n).bind fun y2=>
 I0 y2.1.1 true
def D6.Kc:=kd 256 D6.p fun x=>D6.k x.1.1
theorem D6.Kh:D6.Kc.Holds prog:=kh AH (hc Ea.Kh hn) D6.ok (by kernel_rfl)
abbrev PY.T:Type:=Oe Int Int Bool
abbrev D7.KT:Type:=PY.T×Unit
def PY.kB (tK:D7.KT):PY.T:=
 Ds 0 0 false
def D7.kS (tK:D7.KT):D7.KT:=(PY.kB tK,())
def D7.kL (n:Nat):D7.KT:=Cv D7.kS n
def D7.k0 (tK:D7.KT) (a b:Int):Oe Int Int Bool:=
 ci (b=0) (tK.1)<|
 ck (b≠0/\Ap (a.tdiv b)=true)<|
 ck (b≠0)<|
 Ds (a.tdiv b) (a.tmod b) true
def D7.k (a b:Int):Oe Int Int Bool:=D7.k0 (D7.kL 1000000) a b
def D7.Kc:=kd 257 D7.p fun x=>D7.k x.1.1 x.1.2.1
theorem D7.Kh:D7.Kc.Holds prog:=E7 AH hn D7.ok (fun t x=>D7.k0 t x.1.1 x.1.2.1) (fun c=>(c 3 D7.q3 rfl ((),()),())) D7.kS (by kernel_rfl)
def HI.k (is:Bool):F8 Int:=
 ci is (ED 1)<|
 ED 0
def HI.Kc:=kd 258 HI.p fun x=>HI.k x.1.1
theorem HI.Kh:HI.Kc.Holds prog:=kh AH hn HI.ok (by kernel_rfl)
abbrev Lq.T:Type:=Int->Int->Int->LI Int Bool
abbrev Ls.T:Type:=Int->Int->Int->Int->LI Int Bool
abbrev Lr.T:Type:=Int->Bool->LI Int Bool
abbrev Lt.T:Type:=Int->Int->Int->LI Int Bool
abbrev Lv.T:Type:=Int->Int->Int->LI Int Bool
abbrev Lu.T:Type:=Int->Bool->LI Int Bool
abbrev Ba.KT:Type:=Lq.T×Ls.T×Lr.T×Lt.T×Lv.T×Lu.T×Unit
def Lq.kB (tK:Ba.KT):Lq.T:=fun o t1 t2=>
 (D7.k t1 t2).bind fun y2=>
 ci (o=5) (tK.2.2.1 y2.1.2.1 y2.1.2.2.1)<|
 tK.2.2.1 y2.1.1 y2.1.2.2.1
def Ls.kB (tK:Ba.KT):Ls.T:=fun o t1 t2 t19=>
 ci (t19=6) (ci (t19=6) (tK.2.2.2.1 o t1 t2)<|
 tK.2.2.2.2.1 t1 t2 t19)<|
 ci (t19=7) (tK.2.2.2.1 o t1 t2)<|
 tK.2.2.2.2.1 t1 t2 t19
def Lr.kB (tK:Ba.KT):Lr.T:=fun t9 t11=>
 (Ea.k t9).bind fun y2=>
 I0 y2.1.1 t11
def Lt.kB (tK:Ba.KT):Lt.T:=fun o t1 t2=>
 (GQ.k t1).bind fun y2=>
 (GQ.k t2).bind fun y3=>
 (D7.k y2.1.1 y3.1.1).bind fun y4=>
 ci (o=7) (tK.2.2.2.2.2.1 y4.1.2.1 y4.1.2.2.1)<|
 tK.2.2.2.2.2.1 y4.1.1 y4.1.2.2.1
def Lv.kB (tK:Ba.KT):Lv.T:=fun t1 t2 t19=>
 let A1:=bits BinOp.and IntKind.i64 t2 31
 ci (t19=8) ((D6.k (bits BinOp.and IntKind.i64 t1 t2)).bind Ly)<|
 ci (t19=9) ((D6.k (bits BinOp.or IntKind.i64 t1 t2)).bind Ly)<|
 ci (t19=10) ((D6.k (bits BinOp.xor IntKind.i64 t1 t2)).bind Ly)<|
 ci (t19=11) (ck (0<=bits BinOp.and IntKind.i64 t2 31/\bits BinOp.and IntKind.i64 t2 31<=I IntKind.i64.bits)<|
 (D6.k (IntKind.i64.wrap (t1*2 ^ A1.toNat))).bind Ly)<|
 ci (t19=12) (ck (0<=bits BinOp.and IntKind.i64 t2 31/\bits BinOp.and IntKind.i64 t2 31<=I IntKind.i64.bits)<|
 (D6.k (t1 / 2 ^ A1.toNat)).bind Ly)<|
 ci (t19=13) ((GQ.k t1).bind fun y8=>
 ck (0<=bits BinOp.and IntKind.i64 t2 31/\bits BinOp.and IntKind.i64 t2 31<=I IntKind.i64.bits)<|
 (D6.k (y8.1.1 / 2 ^ A1.toNat)).bind Ly)<|
 ci (t19=14) ((HI.k (decide (t1=t2))).bind fun y9=>
 (D6.k y9.1.1).bind Ly)<|
 ci (t19=15) ((HI.k (!decide (t1=t2))).bind fun y10=>
 (D6.k y10.1.1).bind Ly)<|
 ci (t19=16) ((HI.k (decide (t1<t2))).bind fun y11=>
 (D6.k y11.1.1).bind Ly)<|
 ci (t19=17) ((HI.k (decide (t1<=t2))).bind fun y12=>
 (D6.k y12.1.1).bind Ly)<|
 ci (t19=18) ((GQ.k t1).bind fun y13=>
 (GQ.k t2).bind fun y14=>
 (HI.k (decide (y13.1.1<y14.1.1))).bind fun y15=>
 (D6.k y15.1.1).bind Ly)<|
 ci (t19=19) ((GQ.k t1).bind fun y14=>
 (GQ.k t2).bind fun y15=>
 (HI.k (decide (y14.1.1<=y15.1.1))).bind fun y16=>
 (D6.k y16.1.1).bind Ly)<|
 ci (t19=20) (ck (Ap (-t1))<|
 (D6.k (-t1)).bind Ly)<|
 ci (t19=21) ((D6.k (bits BinOp.xor IntKind.i64 (-1) t1)).bind Ly)<|
 ci (t19=22) ((D6.k (bits BinOp.and IntKind.i64 t1 255)).bind Ly)<|
 ci (t19=23) ((HI.k (decide (t1=0))).bind fun y18=>
 (D6.k y18.1.1).bind Ly)<|
 I0 0 false
def Lu.kB (tK:Ba.KT):Lu.T:=fun t12 t14=>
 (Ea.k t12).bind fun y2=>
 I0 y2.1.1 t14
def Ba.kS (tK:Ba.KT):Ba.KT:=(Lq.kB tK,Ls.kB tK,Lr.kB tK,Lt.kB tK,Lv.kB tK,Lu.kB tK,())
def Ba.kL (n:Nat):Ba.KT:=Cv Ba.kS n
def Ba.k0 (tK:Ba.KT) (o t1 t2:Int):LI Int Bool:=
 (Ea.k t1).bind fun y2=>
 (Ea.k t2).bind fun y3=>
 ci (o=1) (ck (Ap (y2.1.1+y3.1.1))<|
 (D6.k (y2.1.1+y3.1.1)).bind Ly)<|
 ci (o=2) (ck (Ap (y2.1.1 -y3.1.1))<|
 (D6.k (y2.1.1 -y3.1.1)).bind Ly)<|
 ci (o=3) (ck (Ap (y2.1.1*y3.1.1))<|
 (D6.k (y2.1.1*y3.1.1)).bind Ly)<|
 ci (o=4) (ci (o=4) (tK.1 o y2.1.1 y3.1.1)<|
 tK.2.1 o y2.1.1 y3.1.1 o)<|
 ci (o=5) (tK.1 o y2.1.1 y3.1.1)<|
 tK.2.1 o y2.1.1 y3.1.1 o
def Ba.k (o t1 t2:Int):LI Int Bool:=Ba.k0 (Ba.kL 1000000) o t1 t2
def Ba.Kc:=kd 236 Ba.p fun x=>Ba.k x.1.1 x.1.2.1 x.1.2.2.1
theorem Ba.Kh:Ba.Kc.Holds prog:=E7 AH (hc Ea.Kh (hc D6.Kh (hc D7.Kh (hc GQ.Kh (hc HI.Kh hn))))) Ba.ok (fun t x=>Ba.k0 t x.1.1 x.1.2.1 x.1.2.2.1) (fun c=>(fun o t1 t2=>c 12 Ba.kO rfl ((o,t1,t2,()),()),fun o t1 t2 t19=>c 16 Ba.aX rfl ((o,t1,t2,(),t19,()),()),fun t9 t11=>c 15 Ba.aW rfl ((t9,t11,()),()),fun o t1 t2=>c 18 Ba.gm rfl ((o,t1,t2,()),()),fun t1 t2 t19=>c 22 Ba.gp rfl ((t1,t2,(),t19,()),()),fun t12 t14=>c 21 Ba.gn rfl ((t12,t14,()),()),())) Ba.kS (by kernel_rfl)
def Jf.k (is:Bool):F8 Int:=
 ci is (ED 1)<|
 ED 0
def Jf.Kc:=kd 213 Jf.p fun x=>Jf.k x.1.1
theorem Jf.Kh:Jf.Kc.Holds prog:=kh AH hn Jf.ok (by kernel_rfl)
abbrev Ku.T:Type:=List Int->List Int->Int->Int->F8 Bool
abbrev IS.KT:Type:=Ku.T×Unit
def Ku.kB (tK:IS.KT):Ku.T:=fun s1 s2 t12 t13=>
 ci (t13<t12) (ck (0<=t13/\t13<I s1.length)<|
 ck (0<=t13/\t13<I s2.length)<|
 ci (!(List.getD s1 t13.toNat 0=List.getD s2 t13.toNat 0)) (ED false)<|
 ck (Ap (t13+1))<|
 tK.1 s1 s2 t12 (t13+1))<|
 ED true
def IS.kS (tK:IS.KT):IS.KT:=(Ku.kB tK,())
def IS.kL (n:Nat):IS.KT:=Cv IS.kS n
def IS.k0 (tK:IS.KT) (s1 s2:List Int):F8 Bool:=
 ci (!(I s1.length=I s2.length)) (ED false)<|
 tK.1 s1 s2 (I s1.length) 0
def IS.k (s1 s2:List Int):F8 Bool:=IS.k0 (IS.kL 1000000) s1 s2
def IS.Kc:=kd 63 IS.p fun x=>IS.k x.1.1 x.1.2.1
theorem IS.Kh:IS.Kc.Holds prog:=E7 AH hn IS.ok (fun t x=>IS.k0 t x.1.1 x.1.2.1) (fun c=>(fun s1 s2 t12 t13=>c 4 IS.q4 rfl ((s1,s2,t12,t13,()),()),())) IS.kS (by kernel_rfl)
def Tm.k (a b:Dop.UQ):F8 Bool:=
 ci (a.end_=b.end_) (ci (a.code=b.code) ((IS.k a.output b.output).bind kM)<|
 ED false)<|
 ED false
def Tm.Kc:=kd 34 Tm.p fun x=>Tm.k x.1.1 x.1.2.1
theorem Tm.Kh:Tm.Kc.Holds prog:=kh AH (hc IS.Kh hn) Tm.ok (by kernel_rfl)
abbrev m64.kr (r:BQ.T) (t1:Int) (t2:List Int) (k0:ER):R1 Int ER:=r.1 (((),t1,t2,()),(k0,()))
abbrev C3.kr (r:BQ.T) (n:Int) (k0:ER) (k1:EF):R2 Int ER EF:=r.2.1 (((),n,(),()),(k0,k1,()))
abbrev BM.kr (r:BQ.T) (t1:Dop.AR) (k0:ER) (k1:EF):R2 Int ER EF:=r.2.2.1 (((),t1,(),()),(k0,k1,()))
abbrev BI.kr (r:BQ.T) (t1:Int) (k0:ER) (k1:EF):R2 Int ER EF:=r.2.2.2.1 (((),t1,(),()),(k0,k1,()))
abbrev K8.kr (r:BQ.T) (x:Dop.AR) (k0:ER) (k1:EF):R2 Int ER EF:=r.2.2.2.2.1 (((),x,(),()),(k0,k1,()))
abbrev FR.kr (r:BQ.T) (n:Int) (k1:ER) (k3:EF):Option ((Int×Unit)×((Unit×Unit)×ER×(Unit×Unit)×EF×Unit)):=r.2.2.2.2.2.1 ((n,(),(),()),(((),()),k1,((),()),k3,()))
abbrev IH.kr (r:BQ.T) (x:Dop.AR) (k0:ER) (k1:EF):R2 Int ER EF:=r.2.2.2.2.2.2.1 (((),x,(),()),(k0,k1,()))
abbrev BJ.kr (r:BQ.T) (t1:Dop.AR) (k0:ER) (k1:EF):R2 Int ER EF:=r.2.2.2.2.2.2.2.1 (((),t1,(),()),(k0,k1,()))
abbrev K7.kr (r:BQ.T) (x:Dop.AR) (k0:ER) (k1:EF):R2 Int ER EF:=r.2.2.2.2.2.2.2.2.1 (((),x,(),()),(k0,k1,()))
abbrev OL.T:Type:=ER->Dop.DR->EF->R1 Int ER
abbrev Gx.T:Type:=ER->Dop.DR->EF->R1 Int ER
abbrev m64.KT:Type:=OL.T×Gx.T×Unit
def OL.kB (rK:BQ.T) (tK:m64.KT):OL.T:=fun k0 b1 k2=>
 (C3.kr rK b1.body k0 k2).bind fun y2=>
 ci (y2.1.1=4) ((FQ.k y2.2.1).bind fun y4=>
 ci y4.1.1 (tK.2.1 y4.2.1 b1 ((EF.G6 y2.2.2.1 1)))<|
 ck (Ap (ER.sp y4.2.1 -b1.frame))<|
 CS (EF.told y2.2.2.1) (ER.YD y4.2.1 (ER.sp y4.2.1 -b1.frame)))<|
 ck (Ap (ER.sp y2.2.1 -b1.frame))<|
 CS (EF.told y2.2.2.1) (ER.YD y2.2.1 (ER.sp y2.2.1 -b1.frame))
def Gx.kB (rK:BQ.T) (tK:m64.KT):Gx.T:=fun k0 b1 k2=>
 (C3.kr rK b1.body k0 k2).bind fun y2=>
 ci (y2.1.1=4) ((FQ.k y2.2.1).bind fun y4=>
 ci y4.1.1 (tK.2.1 y4.2.1 b1 ((EF.G6 y2.2.2.1 1)))<|
 ck (Ap (ER.sp y4.2.1 -b1.frame))<|
 CS (EF.told y2.2.2.1) (ER.YD y4.2.1 (ER.sp y4.2.1 -b1.frame)))<|
 ck (Ap (ER.sp y2.2.1 -b1.frame))<|
 CS (EF.told y2.2.2.1) (ER.YD y2.2.1 (ER.sp y2.2.1 -b1.frame))
def m64.kS (rK:BQ.T) (tK:m64.KT):m64.KT:=(OL.kB rK tK,Gx.kB rK tK,())
def m64.kL (rK:BQ.T) (n:Nat):m64.KT:=Cv (m64.kS rK) n
def m64.k0 (rK:BQ.T) (tK:m64.KT) (t1:Int) (t2:List Int) (k0:ER):R1 Int ER:=
 let A1:=List.getD k0.p.funcs t1.toNat Dop.d11
 let A3:=Ap (k0.sp+A1.frame)
 let A2:=List.replicate A1.Al.toNat (0:Int)
 ci (!(k0.end_=0)) (CS 0 k0)<|
 ci (t1<0) (CS 0 k0)<|
 ck (0<=t1/\t1<I k0.p.funcs.length)<|
 ck A3<|
 ci (I k0.mem.length<k0.sp+A1.frame) ((Mx.k 3 0 k0).bind G3)<|
 ck (0<=A1.Al/\A1.Al<=A1.Al/\A1.Al*(I (8:Nat)+1)<=140737488355328)<|
 ck A3<|
 tK.1 ((ER.YD k0 (k0.sp+A1.frame))) A1 ((List.getD k0.p.funcs t1.toNat Dop.d11,List.take A2.length t2++List.drop t2.length A2,k0.sp,0,[],0,0,()))
def m64.kf (rK:BQ.T) (t1:Int) (t2:List Int) (k0:ER):R1 Int ER:=m64.k0 rK (m64.kL rK 1000000) t1 t2 k0
def C3.kf (rK:BQ.T) (n:Int) (k0:ER) (k1:EF):R2 Int ER EF:=
 ci (!(k1.GV=0)) ((Bg.k n k0 k1).bind fun y3=>
 ci (!y3.1.1) (AV 0 y3.2.1 y3.2.2.1)<|
 ci (EF.GV y3.2.2.1=0) ((FQ.k y3.2.1).bind fun y6=>
 ci (!y6.1.1) (AV 5 y6.2.1 y3.2.2.1)<|
 ck (0<=n/\n<I (ER.p y6.2.1).nodes.length)<|
 (BM.kr rK (List.getD (ER.p y6.2.1).nodes n.toNat Dop.d5) y6.2.1 y3.2.2.1).bind fun y8=>
 ci (!(ER.end_ y8.2.1=0)) (AV 5 y8.2.1 y8.2.2.1)<|
 AV y8.1.1 y8.2.1 y8.2.2.1)<|
 ck (0<=n/\n<I (ER.p y3.2.1).nodes.length)<|
 (BM.kr rK (List.getD (ER.p y3.2.1).nodes n.toNat Dop.d5) y3.2.1 y3.2.2.1).bind fun y6=>
 ci (!(ER.end_ y6.2.1=0)) (AV 5 y6.2.1 y6.2.2.1)<|
 AV y6.1.1 y6.2.1 y6.2.2.1)<|
 ci (k1.GV=0) ((FQ.k k0).bind fun y4=>
 ci (!y4.1.1) (AV 5 y4.2.1 k1)<|
 ck (0<=n/\n<I (ER.p y4.2.1).nodes.length)<|
 (BM.kr rK (List.getD (ER.p y4.2.1).nodes n.toNat Dop.d5) y4.2.1 k1).bind fun y6=>
 ci (!(ER.end_ y6.2.1=0)) (AV 5 y6.2.1 y6.2.2.1)<|
 AV y6.1.1 y6.2.1 y6.2.2.1)<|
 ck (0<=n/\n<I k0.p.nodes.length)<|
 (BM.kr rK (List.getD k0.p.nodes n.toNat Dop.d5) k0 k1).bind fun y4=>
 ci (!(ER.end_ y4.2.1=0)) (AV 5 y4.2.1 y4.2.2.1)<|
 AV y4.1.1 y4.2.1 y4.2.2.1
abbrev Gs.T:Type:=Int->ER->EF->Dop.AR->R2 Int ER EF
abbrev La.T:Type:=ER->EF->Dop.AR->R2 Int ER EF
abbrev H8.T:Type:=Int->ER->EF->Dop.AR->R2 Int ER EF
abbrev Fm.T:Type:=List Int->Int->Int->ER->EF->R2 Int ER EF
abbrev BM.KT:Type:=Gs.T×La.T×H8.T×Fm.T×Unit
def Gs.kB (rK:BQ.T) (tK:BM.KT):Gs.T:=fun t11 k0 k1 b2=>
 let A1:=C3.kr rK b2.a k0 k1
 ci (t11=35) (AV 1 k0 k1)<|
 ci (t11=36) (AV 2 k0 k1)<|
 ci (t11=37) (ci (0<=b2.a) ((BI.kr rK b2.a k0 k1).bind fun y6=>
 AV 3 y6.2.1 (EF.YE y6.2.2.1 y6.1.1))<|
 AV 3 k0 k1)<|
 ci (t11=38) (AV 4 k0 (EF.gy k1 b2.text))<|
 ci (t11=39) (ci (k1.GV=1) (ci (k1.ko=b2.text) ((C3.kr rK b2.a k0 ((EF.G6 k1 0))).bind A7)<|
 A1.bind A7)<|
 A1.bind A7)<|
 ci (t11=41) (ci (t11=41) (tK.2.1 k0 k1 b2)<|
 tK.2.2.1 t11 k0 k1 b2)<|
 ci (t11=42) (tK.2.1 k0 k1 b2)<|
 tK.2.2.1 t11 k0 k1 b2
def La.kB (rK:BQ.T) (tK:BM.KT):La.T:=fun k0 k1 b2=>
 let A2:=C3.kr rK b2.a k0 k1
 let A1:=(C3.kr rK b2.a k0 ((EF.G6 k1 0))).bind A7
 ci (k1.GV=2) (ci (b2.kind=41) (ci (b2.n=k1.key) A1<|
 ci (k1.GV=3) (ci (b2.kind=42) A1<|
 A2.bind A7)<|
 A2.bind A7)<|
 ci (k1.GV=3) (ci (b2.kind=42) A1<|
 A2.bind A7)<|
 A2.bind A7)<|
 ci (k1.GV=3) (ci (b2.kind=42) A1<|
 A2.bind A7)<|
 A2.bind A7
def H8.kB (rK:BQ.T) (tK:BM.KT):H8.T:=fun t11 k0 k1 b2=>
 ci (t11=40) ((K7.kr rK b2 k0 k1).bind A7)<|
 ci (t11=43) ((DL.k k0.p b2.a).bind fun y4=>
 tK.2.2.2.1 y4.1.1 (I y4.1.1.length) 0 k0 k1)<|
 AV 0 k0 k1
def Fm.kB (rK:BQ.T) (tK:BM.KT):Fm.T:=fun t182 t183 t184 k0 k1=>
 ci (t184<t183) (ck (0<=t184/\t184<I t182.length)<|
 ck (t184.toNat<t182.length)<|
 (C3.kr rK (List.getD t182 t184.toNat 0) k0 k1).bind fun y3=>
 ci (!(y3.1.1=0)) (AV y3.1.1 y3.2.1 y3.2.2.1)<|
 ck (Ap (t184+1))<|
 tK.2.2.2.1 t182 t183 (t184+1) y3.2.1 y3.2.2.1)<|
 AV 0 k0 k1
def BM.kS (rK:BQ.T) (tK:BM.KT):BM.KT:=(Gs.kB rK tK,La.kB rK tK,H8.kB rK tK,Fm.kB rK tK,())
def BM.kL (rK:BQ.T) (n:Nat):BM.KT:=Cv (BM.kS rK) n
def BM.k0 (rK:BQ.T) (tK:BM.KT) (t1:Dop.AR) (k0:ER) (k1:EF):R2 Int ER EF:=
 let A2:=BI.kr rK t1.a k0 k1
 let A1:=(BJ.kr rK t1 k0 k1).bind A7
 ci (t1.kind=30) (ci (0<=t1.a) (A2.bind fun y4=>
 AV 0 y4.2.1 y4.2.2.1)<|
 AV 0 k0 k1)<|
 ci (t1.kind=31) (ci (!(k1.GV=0)) ((Bg.k t1.b k0 k1).bind fun y5=>
 ci y5.1.1 ((C3.kr rK t1.b y5.2.1 y5.2.2.1).bind A7)<|
 (C3.kr rK t1.c y5.2.1 y5.2.2.1).bind A7)<|
 A2.bind fun y5=>
 ci (!(y5.1.1=0)) ((C3.kr rK t1.b y5.2.1 y5.2.2.1).bind A7)<|
 ci (0<=t1.c) (ci (ER.end_ y5.2.1=0) ((C3.kr rK t1.c y5.2.1 y5.2.2.1).bind A7)<|
 AV 0 y5.2.1 y5.2.2.1)<|
 AV 0 y5.2.1 y5.2.2.1)<|
 ci (t1.kind=32) (ci (t1.kind=32) A1<|
 tK.1 t1.kind k0 k1 t1)<|
 ci (t1.kind=33) (ci (t1.kind=33) A1<|
 tK.1 t1.kind k0 k1 t1)<|
 ci (t1.kind=34) A1<|
 tK.1 t1.kind k0 k1 t1
def BM.kf (rK:BQ.T) (t1:Dop.AR) (k0:ER) (k1:EF):R2 Int ER EF:=BM.k0 rK (BM.kL rK 1000000) t1 k0 k1
abbrev E8.T:Type:=Int->ER->EF->Dop.AR->R2 Int ER EF
abbrev Fo.T:Type:=Int->ER->EF->Dop.AR->R2 Int ER EF
abbrev Lf.T:Type:=List Int->List Int->Int->Int->ER->EF->Dop.AR->R2 Int ER EF
abbrev BI.KT:Type:=E8.T×Fo.T×Lf.T×Unit
def E8.kB (rK:BQ.T) (tK:BI.KT):E8.T:=fun t28 k0 k1 b4=>
 let A1:=(IH.kr rK b4 k0 k1).bind A7
 ci (t28=6) ((FR.kr rK b4.a k0 k1).bind fun y3=>
 ci (ER.end_ y3.2.2.1=0) (ck (0<=b4.n/\b4.n<I (EF.Al y3.2.2.2.2.1).length)<|
 ck (b4.n.toNat<(EF.Al y3.2.2.2.2.1).length)<|
 AV y3.1.1 y3.2.2.1 (EF.YC y3.2.2.2.2.1 ((EF.Al y3.2.2.2.2.1).set b4.n.toNat y3.1.1)))<|
 AV y3.1.1 y3.2.2.1 y3.2.2.2.2.1)<|
 ci (t28=7) (ci (t28=7) A1<|
 tK.2.1 t28 k0 k1 b4)<|
 ci (t28=8) A1<|
 tK.2.1 t28 k0 k1 b4
def Fo.kB (rK:BQ.T) (tK:BI.KT):Fo.T:=fun t28 k0 k1 b3=>
 let A2:=List.getD k0.input (Int.toNat 0) 0
 let A1:=FR.kr rK b3.a k0 k1
 ci (t28=9) (A1.bind fun y3=>
 ci (!(y3.1.1=0)) ((FR.kr rK b3.b y3.2.2.1 y3.2.2.2.2.1).bind fun y5=>
 AV y5.1.1 y5.2.2.1 y5.2.2.2.2.1)<|
 (FR.kr rK b3.c y3.2.2.1 y3.2.2.2.2.1).bind fun y5=>
 AV y5.1.1 y5.2.2.1 y5.2.2.2.2.1)<|
 ci (t28=10) (A1.bind fun y4=>
 ci (!(y4.1.1=0)) ((FR.kr rK b3.b y4.2.2.1 y4.2.2.2.2.1).bind fun y6=>
 (Jf.k (!decide (y6.1.1=0))).bind fun y7=>
 AV y7.1.1 y6.2.2.1 y6.2.2.2.2.1)<|
 (Jf.k false).bind fun y6=>
 AV y6.1.1 y4.2.2.1 y4.2.2.2.2.1)<|
 ci (t28=11) (A1.bind fun y5=>
 ci (!(y5.1.1=0)) ((Jf.k true).bind fun y7=>
 AV y7.1.1 y5.2.2.1 y5.2.2.2.2.1)<|
 (FR.kr rK b3.b y5.2.2.1 y5.2.2.2.2.1).bind fun y7=>
 (Jf.k (!decide (y7.1.1=0))).bind fun y8=>
 AV y8.1.1 y7.2.2.1 y7.2.2.2.2.1)<|
 ci (t28=12) ((DL.k k0.p b3.a).bind fun y6=>
 tK.2.2.1 [] y6.1.1 (I y6.1.1.length) 0 k0 k1 b3)<|
 ci (t28=13) (ci (I k0.input.length=0) (AV (-1) k0 k1)<|
 ck ((0:Int)<=0/\0<I k0.input.length)<|
 ck ((0:Int)<=1/\1<=I k0.input.length/\I k0.input.length<=I k0.input.length)<|
 ck (Ap A2)<|
 AV A2 (ER.UH k0 (List.drop (Int.toNat 1) (List.take (I k0.input.length).toNat k0.input))) k1)<|
 ci (t28=14) (A1.bind fun y8=>
 ci (ER.end_ y8.2.2.1=0) (ck (Cc none (room 1 ((ER.out y8.2.2.1).length+(IntKind.u8.wrap (bits BinOp.and IntKind.i64 y8.1.1 255)::[]).length)))<|
 AV (bits BinOp.and IntKind.i64 y8.1.1 255) (ER.gx y8.2.2.1 (ER.out y8.2.2.1++IntKind.u8.wrap (bits BinOp.and IntKind.i64 y8.1.1 255)::[])) y8.2.2.2.2.1)<|
 AV (bits BinOp.and IntKind.i64 y8.1.1 255) y8.2.2.1 y8.2.2.2.2.1)<|
 A1.bind fun y8=>
 (FR.kr rK b3.b y8.2.2.1 y8.2.2.2.2.1).bind fun y9=>
 AV y9.1.1 y9.2.2.1 y9.2.2.2.2.1
def Lf.kB (rK:BQ.T) (tK:BI.KT):Lf.T:=fun t10 t140 t141 t142 k0 k1 b3=>
 ci (t142<t141) (ck (0<=t142/\t142<I t140.length)<|
 ck (t142.toNat<t140.length)<|
 (FR.kr rK (List.getD t140 t142.toNat 0) k0 k1).bind fun y3=>
 ck (Cc none (room 8 (t10.length+(y3.1.1::[]).length)))<|
 ck (Ap (t142+1))<|
 tK.2.2.1 (t10++y3.1.1::[]) t140 t141 (t142+1) y3.2.2.1 y3.2.2.2.2.1 b3)<|
 (Tl.k k0.p b3.text).bind fun y3=>
 (m64.kr rK y3.1.1 t10 k0).bind fun y4=>
 AV y4.1.1 y4.2.1 k1
def BI.kS (rK:BQ.T) (tK:BI.KT):BI.KT:=(E8.kB rK tK,Fo.kB rK tK,Lf.kB rK tK,())
def BI.kL (rK:BQ.T) (n:Nat):BI.KT:=Cv (BI.kS rK) n
def BI.k0 (rK:BQ.T) (tK:BI.KT) (t1:Int) (k0:ER) (k1:EF):R2 Int ER EF:=
 (FQ.k k0).bind fun y2=>
 let z1:R2 Int ER EF:=
 (K8.kr rK (List.getD (ER.p y2.2.1).nodes t1.toNat Dop.d5) y2.2.1 k1).bind A7
 ci (!y2.1.1) (AV 0 y2.2.1 k1)<|
 ck (0<=t1/\t1<I (ER.p y2.2.1).nodes.length)<|
 ci ((List.getD (ER.p y2.2.1).nodes t1.toNat Dop.d5).kind=1) (AV ((List.getD (ER.p y2.2.1).nodes t1.toNat Dop.d5).n) y2.2.1 k1)<|
 ci ((List.getD (ER.p y2.2.1).nodes t1.toNat Dop.d5).kind=2) (ck (0<=(List.getD (ER.p y2.2.1).nodes t1.toNat Dop.d5).n/\(List.getD (ER.p y2.2.1).nodes t1.toNat Dop.d5).n<I k1.Al.length)<|
 ck ((List.getD (ER.p y2.2.1).nodes t1.toNat Dop.d5).n.toNat<k1.Al.length)<|
 AV (List.getD k1.Al (List.getD (ER.p y2.2.1).nodes t1.toNat Dop.d5).n.toNat 0) y2.2.1 k1)<|
 ci ((List.getD (ER.p y2.2.1).nodes t1.toNat Dop.d5).kind=3) (ck (Ap (k1.base+(List.getD (ER.p y2.2.1).nodes t1.toNat Dop.d5).n))<|
 (Ea.k (k1.base+(List.getD (ER.p y2.2.1).nodes t1.toNat Dop.d5).n)).bind fun y7=>
 AV y7.1.1 y2.2.1 k1)<|
 ci ((List.getD (ER.p y2.2.1).nodes t1.toNat Dop.d5).kind=4) (ci ((List.getD (ER.p y2.2.1).nodes t1.toNat Dop.d5).kind=4) (z1)<|
 tK.1 ((List.getD (ER.p y2.2.1).nodes t1.toNat Dop.d5).kind) y2.2.1 k1 (List.getD (ER.p y2.2.1).nodes t1.toNat Dop.d5))<|
 ci ((List.getD (ER.p y2.2.1).nodes t1.toNat Dop.d5).kind=5) (z1)<|
 tK.1 ((List.getD (ER.p y2.2.1).nodes t1.toNat Dop.d5).kind) y2.2.1 k1 (List.getD (ER.p y2.2.1).nodes t1.toNat Dop.d5)
def BI.kf (rK:BQ.T) (t1:Int) (k0:ER) (k1:EF):R2 Int ER EF:=BI.k0 rK (BI.kL rK 1000000) t1 k0 k1
def K8.kf (rK:BQ.T) (x:Dop.AR) (k0:ER) (k1:EF):R2 Int ER EF:=
 (BI.kr rK x.a k0 k1).bind fun y2=>
 ci (x.kind=5) ((BI.kr rK x.b y2.2.1 y2.2.2.1).bind fun y4=>
 ci (!(ER.end_ y4.2.1=0)) (AV 0 y4.2.1 y4.2.2.1)<|
 (GQ.k y2.1.1).bind fun y6=>
 ci (y6.1.1<1) ((Mx.k 2 1 y4.2.1).bind fun y8=>
 AV 0 y8.2.1 y4.2.2.1)<|
 ci (I (ER.mem y4.2.1).length<=y6.1.1) ((Mx.k 2 1 y4.2.1).bind fun y9=>
 AV 0 y9.2.1 y4.2.2.1)<|
 ck (0<=y6.1.1/\y6.1.1<I (ER.mem y4.2.1).length)<|
 ci (x.kind=4) (ck (y6.1.1.toNat<(ER.mem y4.2.1).length)<|
 AV (List.getD (ER.mem y4.2.1) y6.1.1.toNat 0) y4.2.1 y4.2.2.1)<|
 ck (y6.1.1.toNat<(ER.mem y4.2.1).length)<|
 AV y4.1.1 (ER.YB y4.2.1 ((ER.mem y4.2.1).set y6.1.1.toNat y4.1.1)) y4.2.2.1)<|
 ci (!(ER.end_ y2.2.1=0)) (AV 0 y2.2.1 y2.2.2.1)<|
 (GQ.k y2.1.1).bind fun y5=>
 ci (y5.1.1<1) ((Mx.k 2 1 y2.2.1).bind fun y7=>
 AV 0 y7.2.1 y2.2.2.1)<|
 ci (I (ER.mem y2.2.1).length<=y5.1.1) ((Mx.k 2 1 y2.2.1).bind fun y8=>
 AV 0 y8.2.1 y2.2.2.1)<|
 ck (0<=y5.1.1/\y5.1.1<I (ER.mem y2.2.1).length)<|
 ci (x.kind=4) (ck (y5.1.1.toNat<(ER.mem y2.2.1).length)<|
 AV (List.getD (ER.mem y2.2.1) y5.1.1.toNat 0) y2.2.1 y2.2.2.1)<|
 ck (y5.1.1.toNat<(ER.mem y2.2.1).length)<|
 AV 0 (ER.YB y2.2.1 ((ER.mem y2.2.1).set y5.1.1.toNat 0)) y2.2.2.1
def FR.kf (rK:BQ.T) (n:Int) (k1:ER) (k3:EF):Option ((Int×Unit)×((Unit×Unit)×ER×(Unit×Unit)×EF×Unit)):=
 (BI.kr rK n k1 k3).bind fun y2=>
 some ((y2.1.1,()),(((),()),(y2.2.1,(((),()),(y2.2.2.1,())))))
def IH.kf (rK:BQ.T) (x:Dop.AR) (k0:ER) (k1:EF):R2 Int ER EF:=
 (BI.kr rK x.a k0 k1).bind fun y2=>
 ci (x.kind=8) ((BI.kr rK x.b y2.2.1 y2.2.2.1).bind fun y4=>
 ci (!(ER.end_ y4.2.1=0)) (AV 0 y4.2.1 y4.2.2.1)<|
 (Ba.k x.n y2.1.1 y4.1.1).bind fun y6=>
 ci (!y6.1.2.1) ((Mx.k 2 2 y4.2.1).bind fun y8=>
 AV y8.1.1 y8.2.1 y4.2.2.1)<|
 AV y6.1.1 y4.2.1 y4.2.2.1)<|
 ci (!(ER.end_ y2.2.1=0)) (AV 0 y2.2.1 y2.2.2.1)<|
 (Ba.k x.n y2.1.1 0).bind fun y5=>
 ci (!y5.1.2.1) ((Mx.k 2 2 y2.2.1).bind fun y7=>
 AV y7.1.1 y7.2.1 y2.2.2.1)<|
 AV y5.1.1 y2.2.1 y2.2.2.1
abbrev KP.T:Type:=Int->ER->EF->Dop.AR->R2 Int ER EF
abbrev Hd.T:Type:=Int->Bool->ER->EF->Dop.AR->R2 Int ER EF
abbrev Fp.T:Type:=Int->Bool->Int->ER->EF->Dop.AR->R2 Int ER EF
abbrev Lg.T:Type:=Int->ER->EF->R2 Int ER EF
abbrev H9.T:Type:=Int->Bool->ER->EF->Dop.AR->R2 Int ER EF
abbrev IA.T:Type:=Int->Bool->ER->EF->Dop.AR->R2 Int ER EF
abbrev BJ.KT:Type:=KP.T×Hd.T×Fp.T×Lg.T×H9.T×IA.T×Unit
def KP.kB (rK:BQ.T) (tK:BJ.KT):KP.T:=fun t7 k0 k1 b2=>
 ci (!(k1.GV=0)) (tK.2.1 t7 true k0 k1 b2)<|
 tK.2.1 t7 (decide (b2.kind=33)) k0 k1 b2
def Hd.kB (rK:BQ.T) (tK:BJ.KT):Hd.T:=fun t7 t8 k0 k1 b2=>
 ci (b2.kind=34) (tK.2.2.1 t7 t8 b2.b k0 k1 b2)<|
 tK.2.2.1 t7 t8 b2.a k0 k1 b2
def Fp.kB (rK:BQ.T) (tK:BJ.KT):Fp.T:=fun t7 t8 t9 k0 k1 b2=>
 let A1:=C3.kr rK t7 k0 k1
 let z1:R2 Int ER EF:=
 A1.bind fun y5=>
 ci (y5.1.1=1) (AV 0 y5.2.1 y5.2.2.1)<|
 ci (y5.1.1=3) (ci (y5.1.1=3) (tK.2.2.2.1 y5.1.1 y5.2.1 y5.2.2.1)<|
 tK.2.2.2.2.1 t7 false y5.2.1 y5.2.2.1 b2)<|
 ci (y5.1.1=4) (ci (y5.1.1=4) (tK.2.2.2.1 y5.1.1 y5.2.1 y5.2.2.1)<|
 tK.2.2.2.2.1 t7 false y5.2.1 y5.2.2.1 b2)<|
 ci (y5.1.1=5) (tK.2.2.2.1 y5.1.1 y5.2.1 y5.2.2.1)<|
 tK.2.2.2.2.1 t7 false y5.2.1 y5.2.2.1 b2
 ci (!t8) (ci (0<=t9) ((BI.kr rK t9 k0 k1).bind fun y4=>
 ci (y4.1.1=0) (AV 0 y4.2.1 y4.2.2.1)<|
 ci (!t8) (ci (t9<0) ((FQ.k y4.2.1).bind fun y8=>
 ci (!y8.1.1) (AV 5 y8.2.1 y4.2.2.1)<|
 (C3.kr rK t7 y8.2.1 y4.2.2.1).bind fun y10=>
 ci (y10.1.1=1) (AV 0 y10.2.1 y10.2.2.1)<|
 ci (y10.1.1=3) (ci (y10.1.1=3) (tK.2.2.2.1 y10.1.1 y10.2.1 y10.2.2.1)<|
 tK.2.2.2.2.1 t7 false y10.2.1 y10.2.2.1 b2)<|
 ci (y10.1.1=4) (ci (y10.1.1=4) (tK.2.2.2.1 y10.1.1 y10.2.1 y10.2.2.1)<|
 tK.2.2.2.2.1 t7 false y10.2.1 y10.2.2.1 b2)<|
 ci (y10.1.1=5) (tK.2.2.2.1 y10.1.1 y10.2.1 y10.2.2.1)<|
 tK.2.2.2.2.1 t7 false y10.2.1 y10.2.2.1 b2)<|
 (C3.kr rK t7 y4.2.1 y4.2.2.1).bind fun y8=>
 ci (y8.1.1=1) (AV 0 y8.2.1 y8.2.2.1)<|
 ci (y8.1.1=3) (ci (y8.1.1=3) (tK.2.2.2.1 y8.1.1 y8.2.1 y8.2.2.1)<|
 tK.2.2.2.2.1 t7 false y8.2.1 y8.2.2.1 b2)<|
 ci (y8.1.1=4) (ci (y8.1.1=4) (tK.2.2.2.1 y8.1.1 y8.2.1 y8.2.2.1)<|
 tK.2.2.2.2.1 t7 false y8.2.1 y8.2.2.1 b2)<|
 ci (y8.1.1=5) (tK.2.2.2.1 y8.1.1 y8.2.1 y8.2.2.1)<|
 tK.2.2.2.2.1 t7 false y8.2.1 y8.2.2.1 b2)<|
 (C3.kr rK t7 y4.2.1 y4.2.2.1).bind fun y7=>
 ci (y7.1.1=1) (AV 0 y7.2.1 y7.2.2.1)<|
 ci (y7.1.1=3) (ci (y7.1.1=3) (tK.2.2.2.1 y7.1.1 y7.2.1 y7.2.2.1)<|
 tK.2.2.2.2.1 t7 false y7.2.1 y7.2.2.1 b2)<|
 ci (y7.1.1=4) (ci (y7.1.1=4) (tK.2.2.2.1 y7.1.1 y7.2.1 y7.2.2.1)<|
 tK.2.2.2.2.1 t7 false y7.2.1 y7.2.2.1 b2)<|
 ci (y7.1.1=5) (tK.2.2.2.1 y7.1.1 y7.2.1 y7.2.2.1)<|
 tK.2.2.2.2.1 t7 false y7.2.1 y7.2.2.1 b2)<|
 ci (!t8) (ci (t9<0) ((FQ.k k0).bind fun y6=>
 ci (!y6.1.1) (AV 5 y6.2.1 k1)<|
 (C3.kr rK t7 y6.2.1 k1).bind fun y8=>
 ci (y8.1.1=1) (AV 0 y8.2.1 y8.2.2.1)<|
 ci (y8.1.1=3) (ci (y8.1.1=3) (tK.2.2.2.1 y8.1.1 y8.2.1 y8.2.2.1)<|
 tK.2.2.2.2.1 t7 false y8.2.1 y8.2.2.1 b2)<|
 ci (y8.1.1=4) (ci (y8.1.1=4) (tK.2.2.2.1 y8.1.1 y8.2.1 y8.2.2.1)<|
 tK.2.2.2.2.1 t7 false y8.2.1 y8.2.2.1 b2)<|
 ci (y8.1.1=5) (tK.2.2.2.1 y8.1.1 y8.2.1 y8.2.2.1)<|
 tK.2.2.2.2.1 t7 false y8.2.1 y8.2.2.1 b2)<|
 A1.bind fun y6=>
 ci (y6.1.1=1) (AV 0 y6.2.1 y6.2.2.1)<|
 ci (y6.1.1=3) (ci (y6.1.1=3) (tK.2.2.2.1 y6.1.1 y6.2.1 y6.2.2.1)<|
 tK.2.2.2.2.1 t7 false y6.2.1 y6.2.2.1 b2)<|
 ci (y6.1.1=4) (ci (y6.1.1=4) (tK.2.2.2.1 y6.1.1 y6.2.1 y6.2.2.1)<|
 tK.2.2.2.2.1 t7 false y6.2.1 y6.2.2.1 b2)<|
 ci (y6.1.1=5) (tK.2.2.2.1 y6.1.1 y6.2.1 y6.2.2.1)<|
 tK.2.2.2.2.1 t7 false y6.2.1 y6.2.2.1 b2)<|
 z1)<|
 ci (!t8) (ci (t9<0) ((FQ.k k0).bind fun y5=>
 ci (!y5.1.1) (AV 5 y5.2.1 k1)<|
 (C3.kr rK t7 y5.2.1 k1).bind fun y7=>
 ci (y7.1.1=1) (AV 0 y7.2.1 y7.2.2.1)<|
 ci (y7.1.1=3) (ci (y7.1.1=3) (tK.2.2.2.1 y7.1.1 y7.2.1 y7.2.2.1)<|
 tK.2.2.2.2.1 t7 false y7.2.1 y7.2.2.1 b2)<|
 ci (y7.1.1=4) (ci (y7.1.1=4) (tK.2.2.2.1 y7.1.1 y7.2.1 y7.2.2.1)<|
 tK.2.2.2.2.1 t7 false y7.2.1 y7.2.2.1 b2)<|
 ci (y7.1.1=5) (tK.2.2.2.1 y7.1.1 y7.2.1 y7.2.2.1)<|
 tK.2.2.2.2.1 t7 false y7.2.1 y7.2.2.1 b2)<|
 z1)<|
 A1.bind fun y4=>
 ci (y4.1.1=1) (AV 0 y4.2.1 y4.2.2.1)<|
 ci (y4.1.1=3) (ci (y4.1.1=3) (tK.2.2.2.1 y4.1.1 y4.2.1 y4.2.2.1)<|
 tK.2.2.2.2.1 t7 false y4.2.1 y4.2.2.1 b2)<|
 ci (y4.1.1=4) (ci (y4.1.1=4) (tK.2.2.2.1 y4.1.1 y4.2.1 y4.2.2.1)<|
 tK.2.2.2.2.1 t7 false y4.2.1 y4.2.2.1 b2)<|
 ci (y4.1.1=5) (tK.2.2.2.1 y4.1.1 y4.2.1 y4.2.2.1)<|
 tK.2.2.2.2.1 t7 false y4.2.1 y4.2.2.1 b2
def Lg.kB (rK:BQ.T) (tK:BJ.KT):Lg.T:=fun t10 k0 k1=>
 AV t10 k0 k1
def H9.kB (rK:BQ.T) (tK:BJ.KT):H9.T:=fun t7 t8 k0 k1 b2=>
 ci (b2.kind=34) (ci (0<=b2.c) ((BI.kr rK b2.c k0 k1).bind fun y4=>
 tK.2.2.2.2.2.1 t7 t8 y4.2.1 y4.2.2.1 b2)<|
 tK.2.2.2.2.2.1 t7 t8 k0 k1 b2)<|
 tK.2.2.2.2.2.1 t7 t8 k0 k1 b2
def IA.kB (rK:BQ.T) (tK:BJ.KT):IA.T:=fun t7 t8 k0 k1 b2=>
 ci (!(k0.end_=0)) (AV 5 k0 k1)<|
 tK.2.1 t7 t8 k0 k1 b2
def BJ.kS (rK:BQ.T) (tK:BJ.KT):BJ.KT:=(KP.kB rK tK,Hd.kB rK tK,Fp.kB rK tK,Lg.kB rK tK,H9.kB rK tK,IA.kB rK tK,())
def BJ.kL (rK:BQ.T) (n:Nat):BJ.KT:=Cv (BJ.kS rK) n
def BJ.k0 (rK:BQ.T) (tK:BJ.KT) (t1:Dop.AR) (k0:ER) (k1:EF):R2 Int ER EF:=
 ci (t1.kind=34) (ci (k1.GV=0) (ci (0<=t1.a) ((BI.kr rK t1.a k0 k1).bind fun y5=>
 tK.1 t1.d y5.2.1 y5.2.2.1 t1)<|
 tK.1 t1.d k0 k1 t1)<|
 tK.1 t1.d k0 k1 t1)<|
 tK.1 t1.b k0 k1 t1
def BJ.kf (rK:BQ.T) (t1:Dop.AR) (k0:ER) (k1:EF):R2 Int ER EF:=BJ.k0 rK (BJ.kL rK 1000000) t1 k0 k1
def K7.kf (rK:BQ.T) (x:Dop.AR) (k0:ER) (k1:EF):R2 Int ER EF:=
 ci (k1.GV=0) ((BI.kr rK x.a k0 k1).bind fun y3=>
 ci (!(ER.end_ y3.2.1=0)) (AV 5 y3.2.1 (EF.G6 (EF.aZ y3.2.2.1 y3.1.1) 2))<|
 (Bg.k x.b y3.2.1 ((EF.G6 (EF.aZ y3.2.2.1 y3.1.1) 2))).bind fun y5=>
 ci (!y5.1.1) ((Bg.k x.b y5.2.1 ((EF.G6 y5.2.2.1 3))).bind fun y7=>
 ci (!y7.1.1) (AV 0 y7.2.1 (EF.G6 y7.2.2.1 0))<|
 (C3.kr rK x.b y7.2.1 y7.2.2.1).bind fun y9=>
 ci (y9.1.1=1) (AV 0 y9.2.1 y9.2.2.1)<|
 AV y9.1.1 y9.2.1 y9.2.2.1)<|
 (Bg.k x.b y5.2.1 y5.2.2.1).bind fun y7=>
 ci (!y7.1.1) (AV 0 y7.2.1 (EF.G6 y7.2.2.1 0))<|
 (C3.kr rK x.b y7.2.1 y7.2.2.1).bind fun y9=>
 ci (y9.1.1=1) (AV 0 y9.2.1 y9.2.2.1)<|
 AV y9.1.1 y9.2.1 y9.2.2.1)<|
 (C3.kr rK x.b k0 k1).bind fun y3=>
 ci (y3.1.1=1) (AV 0 y3.2.1 y3.2.2.1)<|
 AV y3.1.1 y3.2.1 y3.2.2.1
def BQ.kS (r:BQ.T):BQ.T:=(fun x=>m64.kf r x.1.2.1 x.1.2.2.1 x.2.1,fun x=>C3.kf r x.1.2.1 x.2.1 x.2.2.1,fun x=>BM.kf r x.1.2.1 x.2.1 x.2.2.1,fun x=>BI.kf r x.1.2.1 x.2.1 x.2.2.1,fun x=>K8.kf r x.1.2.1 x.2.1 x.2.2.1,fun x=>FR.kf r x.1.1 x.2.2.1 x.2.2.2.2.1,fun x=>IH.kf r x.1.2.1 x.2.1 x.2.2.1,fun x=>BJ.kf r x.1.2.1 x.2.1 x.2.2.1,fun x=>K7.kf r x.1.2.1 x.2.1 x.2.2.1,())
def BQ.kR (n:Nat):BQ.T:=Cv BQ.kS n
def m64.Kc (n:Nat):=kd 64 m64.p (BQ.kR n).1
def m64.Od:=m64.Kc FU
def m64.k:=m64.kr (BQ.kR FU)
def C3.Kc (n:Nat):=kd 116 C3.p (BQ.kR n).2.1
def BM.Kc (n:Nat):=kd 154 BM.p (BQ.kR n).2.2.1
def BI.Kc (n:Nat):=kd 185 BI.p (BQ.kR n).2.2.2.1
def K8.Kc (n:Nat):=kd 211 K8.p (BQ.kR n).2.2.2.2.1
def FR.Kc (n:Nat):=kd 210 FR.p (BQ.kR n).2.2.2.2.2.1
def IH.Kc (n:Nat):=kd 212 IH.p (BQ.kR n).2.2.2.2.2.2.1
def BJ.Kc (n:Nat):=kd 186 BJ.p (BQ.kR n).2.2.2.2.2.2.2.1
def K7.Kc (n:Nat):=kd 187 K7.p (BQ.kR n).2.2.2.2.2.2.2.2.1
def BQ.Re (n:Nat):List (CC Dop.D4):=[m64.Kc n,C3.Kc n,BM.Kc n,BI.Kc n,K8.Kc n,FR.Kc n,IH.Kc n,BJ.Kc n,K7.Kc n]
theorem BQ.E0: ∀ n,(m64.Kc n).Holds prog/\(C3.Kc n).Holds prog/\(BM.Kc n).Holds prog/\(BI.Kc n).Holds prog/\(K8.Kc n).Holds prog/\(FR.Kc n).Holds prog/\(IH.Kc n).Holds prog/\(BJ.Kc n).Holds prog/\(K7.Kc n).Holds prog/\True
 | 0=>⟨AN AH m64.ok,AN AH C3.ok,AN AH BM.ok,AN AH BI.ok,AN AH K8.ok,AN AH FR.ok,AN AH IH.ok,AN AH BJ.ok,AN AH K7.ok,trivial⟩
 | n+1=>by
  obtain ⟨h0,h1,h2,h3,h4,h5,h6,h7,h8,_⟩:=BQ.E0 n
  have hh: ∀ c∈BQ.Re n,c.Holds prog:=(hc h0 (hc h1 (hc h2 (hc h3 (hc h4 (hc h5 (hc h6 (hc h7 (hc h8 hn)))))))))
  exact ⟨E7 AH (Ac hh (hc Mx.Kh (hc FQ.Kh hn))) m64.ok (fun t x=>m64.k0 (BQ.kR n) t x.1.2.1 x.1.2.2.1 x.2.1) (fun c=>(fun k0 b1 k2=>c 9 m64.q9 rfl (((),(),(),()),(k0,(b1,()),k2,())),fun k0 b1 k2=>c 100009 m64.UB rfl (((),(),(),()),(k0,(b1,()),k2,())),())) (m64.kS (BQ.kR n)) (by kernel_rfl),
   kh AH (Ac hh (hc Bg.IL (hc FQ.Kh hn))) C3.ok (by kernel_rfl),
   E7 AH (Ac hh (hc Bg.IL (hc DL.Kh hn))) BM.ok (fun t x=>BM.k0 (BQ.kR n) t x.1.2.1 x.2.1 x.2.2.1) (fun c=>(fun t11 k0 k1 b2=>c 18 BM.gm rfl (((),(),(),t11,()),(k0,k1,(b2,()),())),fun k0 k1 b2=>c 35 BM.kZ rfl (((),(),(),()),(k0,k1,(b2,()),())),fun t11 k0 k1 b2=>c 38 BM.ka rfl (((),(),(),t11,()),(k0,k1,(b2,()),())),fun t182 t183 t184 k0 k1=>c 42 BM.kg rfl (((),(),t182,t183,t184,()),(k0,k1,())),())) (BM.kS (BQ.kR n)) (by kernel_rfl),
   E7 AH (Ac hh (hc FQ.Kh (hc Ea.Kh (hc Jf.Kh (hc DL.Kh (hc Tl.Kh hn)))))) BI.ok (fun t x=>BI.k0 (BQ.kR n) t x.1.2.1 x.2.1 x.2.2.1) (fun c=>(fun t28 k0 k1 b4=>c 15 BI.aW rfl (((),(),(),(),t28,()),(k0,k1,((),()),((),()),(b4,()),())),fun t28 k0 k1 b3=>c 23 BI.gq rfl (((),(),(),t28,()),(k0,k1,((),()),(b3,()),((),()),())),fun t10 t140 t141 t142 k0 k1 b3=>c 34 BI.kY rfl (((),(),(),t10,t140,t141,t142,()),(k0,k1,((),()),(b3,()),((),()),())),())) (BI.kS (BQ.kR n)) (by kernel_rfl),
   kh AH (Ac hh (hc GQ.Kh (hc Mx.Kh hn))) K8.ok (by kernel_rfl),
   kh AH (Ac hh hn) FR.ok (by kernel_rfl),
   kh AH (Ac hh (hc Ba.Kh (hc Mx.Kh hn))) IH.ok (by kernel_rfl),
   E7 AH (Ac hh (hc FQ.Kh hn)) BJ.ok (fun t x=>BJ.k0 (BQ.kR n) t x.1.2.1 x.2.1 x.2.2.1) (fun c=>(fun t7 k0 k1 b2=>c 6 BJ.q6 rfl (((),(),(),t7,()),(k0,k1,(b2,()),())),fun t7 t8 k0 k1 b2=>c 7 BJ.q7 rfl (((),(),(),t7,t8,()),(k0,k1,(b2,()),())),fun t7 t8 t9 k0 k1 b2=>c 10 BJ.UA rfl (((),(),(),t7,t8,t9,()),(k0,k1,(b2,()),())),fun t10 k0 k1=>c 22 BJ.gp rfl ((t10,()),(k0,k1,())),fun t7 t8 k0 k1 b2=>c 23 BJ.gq rfl (((),(),(),t7,t8,()),(k0,k1,(b2,()),())),fun t7 t8 k0 k1 b2=>c 25 BJ.kQ rfl (((),(),(),t7,t8,()),(k0,k1,(b2,()),())),())) (BJ.kS (BQ.kR n)) (by kernel_rfl),
   kh AH (Ac hh (hc Bg.IL hn)) K7.ok (by kernel_rfl),
   trivial⟩
theorem m64.IL:m64.Od.Holds prog:=(BQ.E0 FU).1
abbrev OK.T:Type:=List Dop.Ni->Int->Int->Dop.Jy->Int->Int->List Int->ER->F8 Dop.UQ
abbrev IB.KT:Type:=OK.T×Unit
def OK.kB (tK:IB.KT):OK.T:=fun t22 t23 t24 b0 b1_0 b1_1 b1_2 k2=>
 let A1:=List.getD t22 t24.toNat Dop.d12
 ci (t24<t23) (ck (0<=t24/\t24<I t22.length)<|
 ck (0<=A1.at_/\A1.at_<I k2.mem.length)<|
 ck (A1.at_.toNat<k2.mem.length)<|
 ck (Ap (t24+1))<|
 tK.1 t22 t23 (t24+1) b0 b1_0 b1_1 b1_2 ((ER.YB k2 (k2.mem.set A1.at_.toNat A1.aH))))<|
 (Tl.k b0 ([109,97,105,110]:List UInt8)).bind fun y3=>
 (m64.k y3.1.1 [] k2).bind fun y4=>
 ci (ER.end_ y4.2.1=0) ((Mx.k 1 y4.1.1 y4.2.1).bind fun y6=>
 ED (Dop.UQ.mk (ER.end_ y6.2.1) (ER.code y6.2.1) (ER.out y6.2.1)))<|
 ED (Dop.UQ.mk (ER.end_ y4.2.1) (ER.code y4.2.1) (ER.out y4.2.1))
def IB.kS (tK:IB.KT):IB.KT:=(OK.kB tK,())
def IB.kL (n:Nat):IB.KT:=Cv IB.kS n
def IB.k0 (tK:IB.KT) (p:Dop.Jy) (input:List Int) (fuel:Int):F8 Dop.UQ:=
 ck ((0:Int)<=4096/\(4096:Int)<=4096/\4096*(I (8:Nat)+1)<=140737488355328)<|
 tK.1 p.globals (I p.globals.length) 0 p 0 0 [] ((p,List.replicate (Int.toNat 4096) 0,p.top,input,[],if 1000000<if fuel<0 then 0 else fuel then 1000000 else if fuel<0 then 0 else fuel,0,0,(0:Int),(),()))
def IB.k (p:Dop.Jy) (input:List Int) (fuel:Int):F8 Dop.UQ:=IB.k0 (IB.kL 1000000) p input fuel
def IB.Kc:=kd 36 IB.p fun x=>IB.k x.1.1 x.1.2.1 x.1.2.2.1
theorem IB.Kh:IB.Kc.Holds prog:=E7 AH (hc Tl.Kh (hc m64.IL (hc Mx.Kh hn))) IB.ok (fun t x=>IB.k0 t x.1.1 x.1.2.1 x.1.2.2.1) (fun c=>(fun t22 t23 t24 b0 b1_0 b1_1 b1_2 k2=>c 3 IB.q3 rfl (((),(),(),t22,t23,t24,()),((b0,()),(b1_0,b1_1,b1_2,()),k2,())),())) IB.kS (by kernel_rfl)
def RZ.k (s:List UInt8) (input:List Int) (fuel:Int):LI Dop.UQ Int:=
 (m18.k s).bind fun y2=>
 ci (!(y2.1.2.2.1=0)) (I0 (Dop.UQ.mk 0 0 []) y2.1.2.2.1)<|
 (IB.k y2.1.1 input fuel).bind fun y4=>
 I0 y4.1.1 0
def RZ.Kc:=kd 30 RZ.p fun x=>RZ.k x.1.1 x.1.2.1 x.1.2.2.1
theorem RZ.Kh:RZ.Kc.Holds prog:=kh AH (hc m18.Kh (hc IB.Kh hn)) RZ.ok (by kernel_rfl)
def XF.k :F8 Bool:=
 (RZ.k ([105,110,116,32,109,97,105,110,40,41,123,112,117,116,99,40,54,53,41,59,114,101,116,117,114,110,32,55,59,125]:List UInt8) [] 100).bind fun y2=>
 ci (y2.1.2.1=0) (ci (y2.1.1.end_=1) (ci (y2.1.1.code=7) (ci (I y2.1.1.output.length=1) (ck ((0:Int)<=0/\0<I y2.1.1.output.length)<|
 ED (decide (List.getD y2.1.1.output (Int.toNat 0) (0:Int)=65)))<|
 ED false)<|
 ED false)<|
 ED false)<|
 ED false
def XF.Kc:=kd 29 XF.p fun x=>XF.k
theorem XF.Kh:XF.Kc.Holds prog:=kh AH (hc RZ.Kh hn) XF.ok (by kernel_rfl)
end
end Go.Proofs.Tryz
