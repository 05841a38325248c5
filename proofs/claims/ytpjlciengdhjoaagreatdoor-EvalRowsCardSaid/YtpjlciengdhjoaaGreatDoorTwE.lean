/-
 Functions in plain words (what their equations say), and their contracts. Written by a program.
-/
import Derived.Test.YtpjlciengdhjoaaGreatDoorMt
import Derived.Test.YtpjlciengdhjoaaGreatDoorMp
set_option maxRecDepth 100000
set_option maxHeartbeats 4000000
namespace Go.Proofs.Tryz
open Go Go.En
noncomputable section
def Yg.k (f:Dop.Ey) (b0:List UInt8):R1 Bool (List UInt8×Unit):=
 B7 (decide (f.name=b0)) (b0,())
def Yg.Kc:=kd 40 Yg.p fun x=>Yg.k x.1.1 x.2.1.1
theorem Yg.Kh:Yg.Kc.Holds prog:=kh AJ hn Yg.ok (by kernel_rfl)
abbrev KL.T:Type:=List Dop.Ey->Int->Int->List UInt8->R1 Int (List UInt8×Unit)
abbrev BY.KT:Type:=KL.T×Unit
def KL.kB (tK:BY.KT):KL.T:=fun s t7 t8 b0=>
 ci (t8<t7) (ck (0<=t8/\t8<I s.length)<|
 (Yg.k (List.getD s t8.toNat Dop.d11) b0).bind fun y1=>
 ci y1.1.1 (B7 t8 (y1.2.1.1,()))<|
 ck (Al (t8+1))<|
 tK.1 s t7 (t8+1) y1.2.1.1)<|
 B7 (-1) (b0,())
def BY.kS (tK:BY.KT):BY.KT:=(KL.kB tK,())
def BY.kL (n:Nat):BY.KT:=Bd BY.kS n
def BY.k0 (tK:BY.KT) (s:List Dop.Ey) (b0:List UInt8):R1 Int (List UInt8×Unit):=
 tK.1 s (I s.length) 0 b0
def BY.k (s:List Dop.Ey) (b0:List UInt8):R1 Int (List UInt8×Unit):=BY.k0 (BY.kL 1000000) s b0
def BY.Kc:=kd 39 BY.p fun x=>BY.k x.1.1 x.2.1.1
theorem BY.Kh:BY.Kc.Holds prog:=GB AJ (hc Yg.Kh hn) BY.ok (fun t x=>BY.k0 t x.1.1 x.2.1.1) (fun c=>(fun s t7 t8 b0=>c 2 BY.q2 rfl ((s,(),t7,t8,()),((b0,()),())),())) BY.kS (by kernel_rfl)
def Sc.k (p:Dop.Hm) (name:List UInt8):C9 Int:=
 (BY.k p.funcs name).bind ov
def Sc.Kc:=kd 19 Sc.p fun x=>Sc.k x.1.1 x.1.2.1
theorem Sc.Kh:Sc.Kc.Holds prog:=kh AJ (hc BY.Kh hn) Sc.ok (by kernel_rfl)
def MX.k (end_ code:Int) (k0:ER):R1 Int ER:=
 ci (k0.end_=0) (B7 0 (ER.ga (ER.gd k0 end_) code))<|
 B7 0 k0
def MX.Kc:=kd 20 MX.p fun x=>MX.k x.1.2.1 x.1.2.2.1 x.2.1
theorem MX.Kh:MX.Kc.Holds prog:=kh AJ hn MX.ok (by kernel_rfl)
def NZ.k (p:Dop.Hm) (n:Int):C9 Dop.AV:=
 let A1:=Aw (Dop.AV.mk 0 (-1) (-1) (-1) (-1) [] 0 0 0)
 ci (n<0) A1<|
 ci (I p.nodes.length<=n) A1<|
 ck (0<=n/\n<I p.nodes.length)<|
 Aw (List.getD p.nodes n.toNat Dop.d5)
def NZ.Kc:=kd 126 NZ.p fun x=>NZ.k x.1.1 x.1.2.1
theorem NZ.Kh:NZ.Kc.Holds prog:=kh AJ hn NZ.ok (by kernel_rfl)
abbrev QF.T:Type:=Int->List Int->Int->Int->Dop.Hm->C9 (List Int)
abbrev DH.KT:Type:=QF.T×Unit
def QF.kB (tK:DH.KT):QF.T:=fun n out t9 t10 b0=>
 ci (t10<t9) ((NZ.k b0 n).bind fun y1=>
 ci (!(y1.1.1.kind=20)) (Aw out)<|
 ck (Dc none (room 8 (out.length+(y1.1.1.a::[]).length)))<|
 ck (Al (t10+1))<|
 tK.1 y1.1.1.b (out++y1.1.1.a::[]) t9 (t10+1) b0)<|
 Aw out
def DH.kS (tK:DH.KT):DH.KT:=(QF.kB tK,())
def DH.kL (n:Nat):DH.KT:=Bd DH.kS n
def DH.k0 (tK:DH.KT) (p:Dop.Hm) (n:Int):C9 (List Int):=
 tK.1 n [] (I p.nodes.length) 0 p
def DH.k (p:Dop.Hm) (n:Int):C9 (List Int):=DH.k0 (DH.kL 1000000) p n
def DH.Kc:=kd 105 DH.p fun x=>DH.k x.1.1 x.1.2.1
theorem DH.Kh:DH.Kc.Holds prog:=GB AJ (hc NZ.Kh hn) DH.ok (fun t x=>DH.k0 t x.1.1 x.1.2.1) (fun c=>(fun n out t9 t10 b0=>c 3 DH.q3 rfl ((n,(),out,t9,t10,()),((b0,()),())),())) DH.kS (by kernel_rfl)
abbrev Da.kr (r:Ec.T) (t1:Int) (k0:ER) (k1:EF):R2 Bool ER EF:=r.1 (((),t1,(),()),(k0,k1,()))
def Da.kf (rK:Ec.T) (t1:Int) (k0:ER) (k1:EF):R2 Bool ER EF:=(AU (S:=Dop.D4) prog 64 tb (Ec.ct rK++[DH.Kc]) Da.p).Ei 3000 1000000 Da.p.sp (((),t1,(),()),(k0,k1,()))
def B5.kf (rK:Ec.T) (s:List Int) (k1:ER) (k3:EF):Option ((Bool×Unit)×((Unit×Unit)×ER×(Unit×Unit)×EF×Unit)):=(AU (S:=Dop.D4) prog 104 tb (Ec.ct rK++[]) B5.p).Ei 3000 1000000 B5.p.sp ((s,(),()),(((),()),k1,((),()),k3,()))
def Bb.kf (rK:Ec.T) (s:List Int) (k1:ER) (k3:EF):Option ((Int×Unit)×((Unit×Unit)×ER×(Unit×Unit)×EF×Unit)):=(AU (S:=Dop.D4) prog 125 tb (Ec.ct rK++[]) Bb.p).Ei 3000 1000000 Bb.p.sp ((s,(),()),(((),()),k1,((),()),k3,()))
def Iu.kf (rK:Ec.T) (s:Int) (k1:ER) (k3:EF):Option ((Bool×Unit)×((Unit×Unit)×ER×(Unit×Unit)×EF×Unit)):=(AU (S:=Dop.D4) prog 106 tb (Ec.ct rK++[]) Iu.p).Ei 3000 1000000 Iu.p.sp ((s,(),(),()),(((),()),k1,((),()),k3,()))
def Ec.kS (r:Ec.T):Ec.T:=(fun x=>Da.kf r x.1.2.1 x.2.1 x.2.2.1,fun x=>B5.kf r x.1.1 x.2.2.1 x.2.2.2.2.1,fun x=>Bb.kf r x.1.1 x.2.2.1 x.2.2.2.2.1,fun x=>Iu.kf r x.1.1 x.2.2.1 x.2.2.2.2.1,())
def Ec.kR (n:Nat):Ec.T:=Bd Ec.kS n
def Da.Kc (n:Nat):=kd 64 Da.p (Ec.kR n).1
def Da.JE:=Da.Kc FU
def Da.k:=Da.kr (Ec.kR FU)
def B5.Kc (n:Nat):=kd 104 B5.p (Ec.kR n).2.1
def Bb.Kc (n:Nat):=kd 125 Bb.p (Ec.kR n).2.2.1
def Iu.Kc (n:Nat):=kd 106 Iu.p (Ec.kR n).2.2.2.1
def Ec.PY (n:Nat):List (BU Dop.D4):=[Da.Kc n,B5.Kc n,Bb.Kc n,Iu.Kc n]
theorem Ec.Dx: ∀ n,(Da.Kc n).Holds prog/\(B5.Kc n).Holds prog/\(Bb.Kc n).Holds prog/\(Iu.Kc n).Holds prog/\True
 | 0=>⟨AR AJ Da.ok,AR AJ B5.ok,AR AJ Bb.ok,AR AJ Iu.ok,trivial⟩
 | n+1=>by
  obtain ⟨h0,h1,h2,h3,_⟩:=Ec.Dx n
  have hh: ∀ c∈Ec.PY n,c.Holds prog:=(hc h0 (hc h1 (hc h2 (hc h3 hn))))
  exact ⟨kh AJ (Ad hh (hc DH.Kh hn)) Da.ok (by kernel_rfl),
   kh AJ (Ad hh hn) B5.ok (by kernel_rfl),
   kh AJ (Ad hh hn) Bb.ok (by kernel_rfl),
   kh AJ (Ad hh hn) Iu.ok (by kernel_rfl),
   trivial⟩
theorem Da.Hi:Da.JE.Holds prog:=(Ec.Dx FU).1
def FH.k (k0:ER):R1 Bool ER:=
 ci (!(k0.end_=0)) (B7 false k0)<|
 ci (k0.fuel=0) ((MX.k 4 0 k0).bind fun y1=>
 B7 false y1.2.1)<|
 ck (Al (k0.fuel -1))<|
 B7 true (ER.gi k0 (k0.fuel -1))
def FH.Kc:=kd 38 FH.p fun x=>FH.k x.2.1
theorem FH.Kh:FH.Kc.Holds prog:=kh AJ (hc MX.Kh hn) FH.ok (by kernel_rfl)
def Ge.k (n:Int):C9 Int:=
 ck (Al (IntKind.u32.wrap n))<|
 Aw (IntKind.u32.wrap n)
def Ge.Kc:=kd 190 Ge.p fun x=>Ge.k x.1.1
theorem Ge.Kh:Ge.Kc.Holds prog:=kh AJ hn Ge.ok (by kernel_rfl)
def DC.k (n:Int):Hj Int Bool:=
 (Dz.k n).bind fun y1=>
 D8 y1.1.1 true
def DC.Kc:=kd 191 DC.p fun x=>DC.k x.1.1
theorem DC.Kh:DC.Kc.Holds prog:=kh AJ (hc Dz.Kh hn) DC.ok (by kernel_rfl)
abbrev QN.T:Type:=Ot Int Int Bool
abbrev DP.KT:Type:=QN.T×Unit
def QN.kB (tK:DP.KT):QN.T:=
 Kd 0 0 false
def DP.kS (tK:DP.KT):DP.KT:=(QN.kB tK,())
def DP.kL (n:Nat):DP.KT:=Bd DP.kS n
def DP.k0 (tK:DP.KT) (a b:Int):Ot Int Int Bool:=
 ci (b=0) (tK.1)<|
 ck (b≠0/\Al (a.tdiv b)=true)<|
 ck (b≠0)<|
 Kd (a.tdiv b) (a.tmod b) true
def DP.k (a b:Int):Ot Int Int Bool:=DP.k0 (DP.kL 1000000) a b
def DP.Kc:=kd 192 DP.p fun x=>DP.k x.1.1 x.1.2.1
theorem DP.Kh:DP.Kc.Holds prog:=GB AJ hn DP.ok (fun t x=>DP.k0 t x.1.1 x.1.2.1) (fun c=>(c 3 DP.q3 rfl ((),()),())) DP.kS (by kernel_rfl)
def GD.k (is:Bool):C9 Int:=
 ci is (Aw 1)<|
 Aw 0
def GD.Kc:=kd 193 GD.p fun x=>GD.k x.1.1
theorem GD.Kh:GD.Kc.Holds prog:=kh AJ hn GD.ok (by kernel_rfl)
abbrev MQ.T:Type:=Int->Int->Int->Hj Int Bool
abbrev MS.T:Type:=Int->Int->Int->Int->Hj Int Bool
abbrev MR.T:Type:=Int->Bool->Hj Int Bool
abbrev MU.T:Type:=Int->Int->Int->Hj Int Bool
abbrev MW.T:Type:=Int->Int->Int->Hj Int Bool
abbrev MV.T:Type:=Int->Bool->Hj Int Bool
abbrev An.KT:Type:=MQ.T×MS.T×MR.T×MU.T×MW.T×MV.T×Unit
def MQ.kB (tK:An.KT):MQ.T:=fun o t1 t2=>
 (DP.k t1 t2).bind fun y1=>
 ci (o=5) (tK.2.2.1 y1.1.2.1 y1.1.2.2.1)<|
 tK.2.2.1 y1.1.1 y1.1.2.2.1
def MS.kB (tK:An.KT):MS.T:=fun o t1 t2 t19=>
 ci (t19=6) (ci (t19=6) (tK.2.2.2.1 o t1 t2)<|
 tK.2.2.2.2.1 t1 t2 t19)<|
 ci (t19=7) (tK.2.2.2.1 o t1 t2)<|
 tK.2.2.2.2.1 t1 t2 t19
def MR.kB (tK:An.KT):MR.T:=fun t9 t11=>
 (Dz.k t9).bind fun y1=>
 D8 y1.1.1 t11
def MU.kB (tK:An.KT):MU.T:=fun o t1 t2=>
 (Ge.k t1).bind fun y3=>
 (Ge.k t2).bind fun y2=>
 (DP.k y3.1.1 y2.1.1).bind fun y1=>
 ci (o=7) (tK.2.2.2.2.2.1 y1.1.2.1 y1.1.2.2.1)<|
 tK.2.2.2.2.2.1 y1.1.1 y1.1.2.2.1
def MW.kB (tK:An.KT):MW.T:=fun t1 t2 t19=>
 let A1:=bits BinOp.and IntKind.i64 t2 31
 ci (t19=8) ((DC.k (bits BinOp.and IntKind.i64 t1 t2)).bind Iy)<|
 ci (t19=9) ((DC.k (bits BinOp.or IntKind.i64 t1 t2)).bind Iy)<|
 ci (t19=10) ((DC.k (bits BinOp.xor IntKind.i64 t1 t2)).bind Iy)<|
 ci (t19=11) (ck (0<=bits BinOp.and IntKind.i64 t2 31/\bits BinOp.and IntKind.i64 t2 31<=I IntKind.i64.bits)<|
 (DC.k (IntKind.i64.wrap (t1*2 ^ A1.toNat))).bind Iy)<|
 ci (t19=12) (ck (0<=bits BinOp.and IntKind.i64 t2 31/\bits BinOp.and IntKind.i64 t2 31<=I IntKind.i64.bits)<|
 (DC.k (t1 / 2 ^ A1.toNat)).bind Iy)<|
 ci (t19=13) ((Ge.k t1).bind fun y2=>
 ck (0<=bits BinOp.and IntKind.i64 t2 31/\bits BinOp.and IntKind.i64 t2 31<=I IntKind.i64.bits)<|
 (DC.k (y2.1.1 / 2 ^ A1.toNat)).bind Iy)<|
 ci (t19=14) ((GD.k (decide (t1=t2))).bind fun y2=>
 (DC.k y2.1.1).bind Iy)<|
 ci (t19=15) ((GD.k (!decide (t1=t2))).bind fun y2=>
 (DC.k y2.1.1).bind Iy)<|
 ci (t19=16) ((GD.k (decide (t1<t2))).bind fun y2=>
 (DC.k y2.1.1).bind Iy)<|
 ci (t19=17) ((GD.k (decide (t1<=t2))).bind fun y2=>
 (DC.k y2.1.1).bind Iy)<|
 ci (t19=18) ((Ge.k t1).bind fun y4=>
 (Ge.k t2).bind fun y3=>
 (GD.k (decide (y4.1.1<y3.1.1))).bind fun y2=>
 (DC.k y2.1.1).bind Iy)<|
 ci (t19=19) ((Ge.k t1).bind fun y4=>
 (Ge.k t2).bind fun y3=>
 (GD.k (decide (y4.1.1<=y3.1.1))).bind fun y2=>
 (DC.k y2.1.1).bind Iy)<|
 ci (t19=20) (ck (Al (-t1))<|
 (DC.k (-t1)).bind Iy)<|
 ci (t19=21) ((DC.k (bits BinOp.xor IntKind.i64 (-1) t1)).bind Iy)<|
 ci (t19=22) ((DC.k (bits BinOp.and IntKind.i64 t1 255)).bind Iy)<|
 ci (t19=23) ((GD.k (decide (t1=0))).bind fun y2=>
 (DC.k y2.1.1).bind Iy)<|
 D8 0 false
def MV.kB (tK:An.KT):MV.T:=fun t12 t14=>
 (Dz.k t12).bind fun y1=>
 D8 y1.1.1 t14
def An.kS (tK:An.KT):An.KT:=(MQ.kB tK,MS.kB tK,MR.kB tK,MU.kB tK,MW.kB tK,MV.kB tK,())
def An.kL (n:Nat):An.KT:=Bd An.kS n
def An.k0 (tK:An.KT) (o t1 t2:Int):Hj Int Bool:=
 (Dz.k t1).bind fun y3=>
 (Dz.k t2).bind fun y2=>
 ci (o=1) (ck (Al (y3.1.1+y2.1.1))<|
 (DC.k (y3.1.1+y2.1.1)).bind Iy)<|
 ci (o=2) (ck (Al (y3.1.1 -y2.1.1))<|
 (DC.k (y3.1.1 -y2.1.1)).bind Iy)<|
 ci (o=3) (ck (Al (y3.1.1*y2.1.1))<|
 (DC.k (y3.1.1*y2.1.1)).bind Iy)<|
 ci (o=4) (ci (o=4) (tK.1 o y3.1.1 y2.1.1)<|
 tK.2.1 o y3.1.1 y2.1.1 o)<|
 ci (o=5) (tK.1 o y3.1.1 y2.1.1)<|
 tK.2.1 o y3.1.1 y2.1.1 o
def An.k (o t1 t2:Int):Hj Int Bool:=An.k0 (An.kL 1000000) o t1 t2
def An.Kc:=kd 161 An.p fun x=>An.k x.1.1 x.1.2.1 x.1.2.2.1
theorem An.Kh:An.Kc.Holds prog:=GB AJ (hc Dz.Kh (hc DC.Kh (hc DP.Kh (hc Ge.Kh (hc GD.Kh hn))))) An.ok (fun t x=>An.k0 t x.1.1 x.1.2.1 x.1.2.2.1) (fun c=>(fun o t1 t2=>c 12 An.oy rfl ((o,t1,t2,()),()),fun o t1 t2 t19=>c 16 An.gC rfl ((o,t1,t2,(),t19,()),()),fun t9 t11=>c 15 An.gB rfl ((t9,t11,()),()),fun o t1 t2=>c 18 An.dP rfl ((o,t1,t2,()),()),fun t1 t2 t19=>c 22 An.ki rfl ((t1,t2,(),t19,()),()),fun t12 t14=>c 21 An.mm rfl ((t12,t14,()),()),())) An.kS (by kernel_rfl)
def KH.k (is:Bool):C9 Int:=
 ci is (Aw 1)<|
 Aw 0
def KH.Kc:=kd 130 KH.p fun x=>KH.k x.1.1
theorem KH.Kh:KH.Kc.Holds prog:=kh AJ hn KH.ok (by kernel_rfl)
abbrev Lf.T:Type:=List Int->List Int->Int->Int->C9 Bool
abbrev I5.KT:Type:=Lf.T×Unit
def Lf.kB (tK:I5.KT):Lf.T:=fun s1 s2 t12 t13=>
 ci (t13<t12) (ck (0<=t13/\t13<I s1.length)<|
 ck (0<=t13/\t13<I s2.length)<|
 ci (!(List.getD s1 t13.toNat 0=List.getD s2 t13.toNat 0)) (Aw false)<|
 ck (Al (t13+1))<|
 tK.1 s1 s2 t12 (t13+1))<|
 Aw true
def I5.kS (tK:I5.KT):I5.KT:=(Lf.kB tK,())
def I5.kL (n:Nat):I5.KT:=Bd I5.kS n
def I5.k0 (tK:I5.KT) (s1 s2:List Int):C9 Bool:=
 ci (!(I s1.length=I s2.length)) (Aw false)<|
 tK.1 s1 s2 (I s1.length) 0
def I5.k (s1 s2:List Int):C9 Bool:=I5.k0 (I5.kL 1000000) s1 s2
def I5.Kc:=kd 15 I5.p fun x=>I5.k x.1.1 x.1.2.1
theorem I5.Kh:I5.Kc.Holds prog:=GB AJ hn I5.ok (fun t x=>I5.k0 t x.1.1 x.1.2.1) (fun c=>(fun s1 s2 t12 t13=>c 4 I5.q4 rfl ((s1,s2,t12,t13,()),()),())) I5.kS (by kernel_rfl)
def Ti.k (a b:Dop.UO):C9 Bool:=
 ci (a.end_=b.end_) (ci (a.code=b.code) ((I5.k a.output b.output).bind ov)<|
 Aw false)<|
 Aw false
def Ti.Kc:=kd 9 Ti.p fun x=>Ti.k x.1.1 x.1.2.1
theorem Ti.Kh:Ti.Kc.Holds prog:=kh AJ (hc I5.Kh hn) Ti.ok (by kernel_rfl)
abbrev m64.kr (r:B8.T) (t1:Int) (t2:List Int) (k0:ER):R1 Int ER:=r.1 (((),t1,t2,()),(k0,()))
abbrev DA.kr (r:B8.T) (n:Int) (k0:ER) (k1:EF):R2 Int ER EF:=r.2.1 (((),n,(),()),(k0,k1,()))
abbrev BW.kr (r:B8.T) (t1:Dop.AV) (k0:ER) (k1:EF):R2 Int ER EF:=r.2.2.1 (((),t1,(),()),(k0,k1,()))
abbrev BH.kr (r:B8.T) (t1:Int) (k0:ER) (k1:EF):R2 Int ER EF:=r.2.2.2.1 (((),t1,(),()),(k0,k1,()))
abbrev Iv.kr (r:B8.T) (x:Dop.AV) (k0:ER) (k1:EF):R2 Int ER EF:=r.2.2.2.2.1 (((),x,(),()),(k0,k1,()))
abbrev Fb.kr (r:B8.T) (n:Int) (k1:ER) (k3:EF):Option ((Int×Unit)×((Unit×Unit)×ER×(Unit×Unit)×EF×Unit)):=r.2.2.2.2.2.1 ((n,(),(),()),(((),()),k1,((),()),k3,()))
abbrev HH.kr (r:B8.T) (x:Dop.AV) (k0:ER) (k1:EF):R2 Int ER EF:=r.2.2.2.2.2.2.1 (((),x,(),()),(k0,k1,()))
abbrev Bn.kr (r:B8.T) (t1:Dop.AV) (k0:ER) (k1:EF):R2 Int ER EF:=r.2.2.2.2.2.2.2.1 (((),t1,(),()),(k0,k1,()))
abbrev Ha.kr (r:B8.T) (x:Dop.AV) (k0:ER) (k1:EF):R2 Int ER EF:=r.2.2.2.2.2.2.2.2.1 (((),x,(),()),(k0,k1,()))
abbrev Lg.T:Type:=ER->Dop.Ey->EF->R1 Int ER
abbrev HK.T:Type:=ER->Dop.Ey->EF->R1 Int ER
abbrev m64.KT:Type:=Lg.T×HK.T×Unit
def Lg.kB (rK:B8.T) (tK:m64.KT):Lg.T:=fun k0 b1 k2=>
 (DA.kr rK b1.body k0 k2).bind fun y2=>
 ci (y2.1.1=4) ((FH.k y2.2.1).bind fun y1=>
 ci y1.1.1 (tK.2.1 y1.2.1 b1 ((EF.Qj y2.2.2.1 1)))<|
 ck (Al (ER.sp y1.2.1 -b1.frame))<|
 B7 (EF.told y2.2.2.1) (ER.Zl y1.2.1 (ER.sp y1.2.1 -b1.frame)))<|
 ck (Al (ER.sp y2.2.1 -b1.frame))<|
 B7 (EF.told y2.2.2.1) (ER.Zl y2.2.1 (ER.sp y2.2.1 -b1.frame))
def HK.kB (rK:B8.T) (tK:m64.KT):HK.T:=fun k0 b1 k2=>
 (DA.kr rK b1.body k0 k2).bind fun y2=>
 ci (y2.1.1=4) ((FH.k y2.2.1).bind fun y1=>
 ci y1.1.1 (tK.2.1 y1.2.1 b1 ((EF.Qj y2.2.2.1 1)))<|
 ck (Al (ER.sp y1.2.1 -b1.frame))<|
 B7 (EF.told y2.2.2.1) (ER.Zl y1.2.1 (ER.sp y1.2.1 -b1.frame)))<|
 ck (Al (ER.sp y2.2.1 -b1.frame))<|
 B7 (EF.told y2.2.2.1) (ER.Zl y2.2.1 (ER.sp y2.2.1 -b1.frame))
def m64.kS (rK:B8.T) (tK:m64.KT):m64.KT:=(Lg.kB rK tK,HK.kB rK tK,())
def m64.kL (rK:B8.T) (n:Nat):m64.KT:=Bd (m64.kS rK) n
def m64.k0 (rK:B8.T) (tK:m64.KT) (t1:Int) (t2:List Int) (k0:ER):R1 Int ER:=
 let A1:=List.getD k0.p.funcs t1.toNat Dop.d11
 let A3:=Al (k0.sp+A1.frame)
 let A2:=List.replicate A1.A7.toNat (0:Int)
 ci (!(k0.end_=0)) (B7 0 k0)<|
 ci (t1<0) (B7 0 k0)<|
 ck (0<=t1/\t1<I k0.p.funcs.length)<|
 ck A3<|
 ci (I k0.mem.length<k0.sp+A1.frame) ((MX.k 3 0 k0).bind PF)<|
 ck (0<=A1.A7/\A1.A7<=A1.A7/\A1.A7*(I (8:Nat)+1)<=140737488355328)<|
 ck A3<|
 tK.1 ((ER.Zl k0 (k0.sp+A1.frame))) A1 ((List.getD k0.p.funcs t1.toNat Dop.d11,List.take A2.length t2++List.drop t2.length A2,k0.sp,0,[],0,0,()))
def m64.kf (rK:B8.T) (t1:Int) (t2:List Int) (k0:ER):R1 Int ER:=m64.k0 rK (m64.kL rK 1000000) t1 t2 k0
def DA.kf (rK:B8.T) (n:Int) (k0:ER) (k1:EF):R2 Int ER EF:=
 ci (!(k1.OG=0)) ((Da.k n k0 k1).bind fun y3=>
 ci (!y3.1.1) (Ar 0 y3.2.1 y3.2.2.1)<|
 ci (EF.OG y3.2.2.1=0) ((FH.k y3.2.1).bind fun y2=>
 ci (!y2.1.1) (Ar 5 y2.2.1 y3.2.2.1)<|
 ck (0<=n/\n<I (ER.p y2.2.1).nodes.length)<|
 (BW.kr rK (List.getD (ER.p y2.2.1).nodes n.toNat Dop.d5) y2.2.1 y3.2.2.1).bind fun y1=>
 ci (!(ER.end_ y1.2.1=0)) (Ar 5 y1.2.1 y1.2.2.1)<|
 Ar y1.1.1 y1.2.1 y1.2.2.1)<|
 ck (0<=n/\n<I (ER.p y3.2.1).nodes.length)<|
 (BW.kr rK (List.getD (ER.p y3.2.1).nodes n.toNat Dop.d5) y3.2.1 y3.2.2.1).bind fun y1=>
 ci (!(ER.end_ y1.2.1=0)) (Ar 5 y1.2.1 y1.2.2.1)<|
 Ar y1.1.1 y1.2.1 y1.2.2.1)<|
 ci (k1.OG=0) ((FH.k k0).bind fun y2=>
 ci (!y2.1.1) (Ar 5 y2.2.1 k1)<|
 ck (0<=n/\n<I (ER.p y2.2.1).nodes.length)<|
 (BW.kr rK (List.getD (ER.p y2.2.1).nodes n.toNat Dop.d5) y2.2.1 k1).bind fun y1=>
 ci (!(ER.end_ y1.2.1=0)) (Ar 5 y1.2.1 y1.2.2.1)<|
 Ar y1.1.1 y1.2.1 y1.2.2.1)<|
 ck (0<=n/\n<I k0.p.nodes.length)<|
 (BW.kr rK (List.getD k0.p.nodes n.toNat Dop.d5) k0 k1).bind fun y1=>
 ci (!(ER.end_ y1.2.1=0)) (Ar 5 y1.2.1 y1.2.2.1)<|
 Ar y1.1.1 y1.2.1 y1.2.2.1
abbrev HF.T:Type:=Int->ER->EF->Dop.AV->R2 Int ER EF
abbrev MB.T:Type:=ER->EF->Dop.AV->R2 Int ER EF
abbrev Ii.T:Type:=Int->ER->EF->Dop.AV->R2 Int ER EF
abbrev Ij.T:Type:=List Int->Int->Int->ER->EF->R2 Int ER EF
abbrev BW.KT:Type:=HF.T×MB.T×Ii.T×Ij.T×Unit
def HF.kB (rK:B8.T) (tK:BW.KT):HF.T:=fun t11 k0 k1 b2=>
 let A1:=DA.kr rK b2.a k0 k1
 ci (t11=35) (Ar 1 k0 k1)<|
 ci (t11=36) (Ar 2 k0 k1)<|
 ci (t11=37) (ci (0<=b2.a) ((BH.kr rK b2.a k0 k1).bind fun y1=>
 Ar 3 y1.2.1 (EF.Zm y1.2.2.1 y1.1.1))<|
 Ar 3 k0 k1)<|
 ci (t11=38) (Ar 4 k0 (EF.lF k1 b2.text))<|
 ci (t11=39) (ci (k1.OG=1) (ci (k1.qC=b2.text) ((DA.kr rK b2.a k0 ((EF.Qj k1 0))).bind C8)<|
 A1.bind C8)<|
 A1.bind C8)<|
 ci (t11=41) (ci (t11=41) (tK.2.1 k0 k1 b2)<|
 tK.2.2.1 t11 k0 k1 b2)<|
 ci (t11=42) (tK.2.1 k0 k1 b2)<|
 tK.2.2.1 t11 k0 k1 b2
def MB.kB (rK:B8.T) (tK:BW.KT):MB.T:=fun k0 k1 b2=>
 let A2:=DA.kr rK b2.a k0 k1
 let A1:=(DA.kr rK b2.a k0 ((EF.Qj k1 0))).bind C8
 let z1:R2 Int ER EF:=
 ci (k1.OG=3) (ci (b2.kind=42) A1<|
 A2.bind C8)<|
 A2.bind C8
 ci (k1.OG=2) (ci (b2.kind=41) (ci (b2.n=k1.key) A1<|
 z1)<|
 z1)<|
 z1
def Ii.kB (rK:B8.T) (tK:BW.KT):Ii.T:=fun t11 k0 k1 b2=>
 ci (t11=40) ((Ha.kr rK b2 k0 k1).bind C8)<|
 ci (t11=43) ((DH.k k0.p b2.a).bind fun y1=>
 tK.2.2.2.1 y1.1.1 (I y1.1.1.length) 0 k0 k1)<|
 Ar 0 k0 k1
def Ij.kB (rK:B8.T) (tK:BW.KT):Ij.T:=fun t182 t183 t184 k0 k1=>
 ci (t184<t183) (ck (0<=t184/\t184<I t182.length)<|
 ck (t184.toNat<t182.length)<|
 (DA.kr rK (List.getD t182 t184.toNat 0) k0 k1).bind fun y1=>
 ci (!(y1.1.1=0)) (Ar y1.1.1 y1.2.1 y1.2.2.1)<|
 ck (Al (t184+1))<|
 tK.2.2.2.1 t182 t183 (t184+1) y1.2.1 y1.2.2.1)<|
 Ar 0 k0 k1
def BW.kS (rK:B8.T) (tK:BW.KT):BW.KT:=(HF.kB rK tK,MB.kB rK tK,Ii.kB rK tK,Ij.kB rK tK,())
def BW.kL (rK:B8.T) (n:Nat):BW.KT:=Bd (BW.kS rK) n
def BW.k0 (rK:B8.T) (tK:BW.KT) (t1:Dop.AV) (k0:ER) (k1:EF):R2 Int ER EF:=
 let A2:=BH.kr rK t1.a k0 k1
 let A1:=(Bn.kr rK t1 k0 k1).bind C8
 ci (t1.kind=30) (ci (0<=t1.a) (A2.bind fun y1=>
 Ar 0 y1.2.1 y1.2.2.1)<|
 Ar 0 k0 k1)<|
 ci (t1.kind=31) (ci (!(k1.OG=0)) ((Da.k t1.b k0 k1).bind fun y2=>
 ci y2.1.1 ((DA.kr rK t1.b y2.2.1 y2.2.2.1).bind C8)<|
 (DA.kr rK t1.c y2.2.1 y2.2.2.1).bind C8)<|
 A2.bind fun y2=>
 ci (!(y2.1.1=0)) ((DA.kr rK t1.b y2.2.1 y2.2.2.1).bind C8)<|
 ci (0<=t1.c) (ci (ER.end_ y2.2.1=0) ((DA.kr rK t1.c y2.2.1 y2.2.2.1).bind C8)<|
 Ar 0 y2.2.1 y2.2.2.1)<|
 Ar 0 y2.2.1 y2.2.2.1)<|
 ci (t1.kind=32) (ci (t1.kind=32) A1<|
 tK.1 t1.kind k0 k1 t1)<|
 ci (t1.kind=33) (ci (t1.kind=33) A1<|
 tK.1 t1.kind k0 k1 t1)<|
 ci (t1.kind=34) A1<|
 tK.1 t1.kind k0 k1 t1
def BW.kf (rK:B8.T) (t1:Dop.AV) (k0:ER) (k1:EF):R2 Int ER EF:=BW.k0 rK (BW.kL rK 1000000) t1 k0 k1
abbrev Ik.T:Type:=Int->ER->EF->Dop.AV->R2 Int ER EF
abbrev MC.T:Type:=Int->ER->EF->Dop.AV->R2 Int ER EF
abbrev MD.T:Type:=List Int->List Int->Int->Int->ER->EF->Dop.AV->R2 Int ER EF
abbrev BH.KT:Type:=Ik.T×MC.T×MD.T×Unit
def Ik.kB (rK:B8.T) (tK:BH.KT):Ik.T:=fun t28 k0 k1 b4=>
 let A1:=(HH.kr rK b4 k0 k1).bind C8
 ci (t28=6) ((Fb.kr rK b4.a k0 k1).bind fun y1=>
 ci (ER.end_ y1.2.2.1=0) (ck (0<=b4.n/\b4.n<I (EF.A7 y1.2.2.2.2.1).length)<|
 ck (b4.n.toNat<(EF.A7 y1.2.2.2.2.1).length)<|
 Ar y1.1.1 y1.2.2.1 (EF.gj y1.2.2.2.2.1 ((EF.A7 y1.2.2.2.2.1).set b4.n.toNat y1.1.1)))<|
 Ar y1.1.1 y1.2.2.1 y1.2.2.2.2.1)<|
 ci (t28=7) (ci (t28=7) A1<|
 tK.2.1 t28 k0 k1 b4)<|
 ci (t28=8) A1<|
 tK.2.1 t28 k0 k1 b4
def MC.kB (rK:B8.T) (tK:BH.KT):MC.T:=fun t28 k0 k1 b3=>
 let A2:=List.getD k0.input (Int.toNat 0) 0
 let A1:=Fb.kr rK b3.a k0 k1
 ci (t28=9) (A1.bind fun y2=>
 ci (!(y2.1.1=0)) ((Fb.kr rK b3.b y2.2.2.1 y2.2.2.2.2.1).bind fun y1=>
 Ar y1.1.1 y1.2.2.1 y1.2.2.2.2.1)<|
 (Fb.kr rK b3.c y2.2.2.1 y2.2.2.2.2.1).bind fun y1=>
 Ar y1.1.1 y1.2.2.1 y1.2.2.2.2.1)<|
 ci (t28=10) (A1.bind fun y3=>
 ci (!(y3.1.1=0)) ((Fb.kr rK b3.b y3.2.2.1 y3.2.2.2.2.1).bind fun y2=>
 (KH.k (!decide (y2.1.1=0))).bind fun y1=>
 Ar y1.1.1 y2.2.2.1 y2.2.2.2.2.1)<|
 (KH.k false).bind fun y1=>
 Ar y1.1.1 y3.2.2.1 y3.2.2.2.2.1)<|
 ci (t28=11) (A1.bind fun y3=>
 ci (!(y3.1.1=0)) ((KH.k true).bind fun y1=>
 Ar y1.1.1 y3.2.2.1 y3.2.2.2.2.1)<|
 (Fb.kr rK b3.b y3.2.2.1 y3.2.2.2.2.1).bind fun y2=>
 (KH.k (!decide (y2.1.1=0))).bind fun y1=>
 Ar y1.1.1 y2.2.2.1 y2.2.2.2.2.1)<|
 ci (t28=12) ((DH.k k0.p b3.a).bind fun y1=>
 tK.2.2.1 [] y1.1.1 (I y1.1.1.length) 0 k0 k1 b3)<|
 ci (t28=13) (ci (I k0.input.length=0) (Ar (-1) k0 k1)<|
 ck ((0:Int)<=0/\0<I k0.input.length)<|
 ck ((0:Int)<=1/\1<=I k0.input.length/\I k0.input.length<=I k0.input.length)<|
 ck (Al A2)<|
 Ar A2 (ER.cF k0 (List.drop (Int.toNat 1) (List.take (I k0.input.length).toNat k0.input))) k1)<|
 ci (t28=14) (A1.bind fun y1=>
 ci (ER.end_ y1.2.2.1=0) (ck (Dc none (room 1 ((ER.out y1.2.2.1).length+(IntKind.u8.wrap (bits BinOp.and IntKind.i64 y1.1.1 255)::[]).length)))<|
 Ar (bits BinOp.and IntKind.i64 y1.1.1 255) (ER.lE y1.2.2.1 (ER.out y1.2.2.1++IntKind.u8.wrap (bits BinOp.and IntKind.i64 y1.1.1 255)::[])) y1.2.2.2.2.1)<|
 Ar (bits BinOp.and IntKind.i64 y1.1.1 255) y1.2.2.1 y1.2.2.2.2.1)<|
 A1.bind fun y2=>
 (Fb.kr rK b3.b y2.2.2.1 y2.2.2.2.2.1).bind fun y1=>
 Ar y1.1.1 y1.2.2.1 y1.2.2.2.2.1
def MD.kB (rK:B8.T) (tK:BH.KT):MD.T:=fun t10 t140 t141 t142 k0 k1 b3=>
 ci (t142<t141) (ck (0<=t142/\t142<I t140.length)<|
 ck (t142.toNat<t140.length)<|
 (Fb.kr rK (List.getD t140 t142.toNat 0) k0 k1).bind fun y1=>
 ck (Dc none (room 8 (t10.length+(y1.1.1::[]).length)))<|
 ck (Al (t142+1))<|
 tK.2.2.1 (t10++y1.1.1::[]) t140 t141 (t142+1) y1.2.2.1 y1.2.2.2.2.1 b3)<|
 (Sc.k k0.p b3.text).bind fun y2=>
 (m64.kr rK y2.1.1 t10 k0).bind fun y1=>
 Ar y1.1.1 y1.2.1 k1
def BH.kS (rK:B8.T) (tK:BH.KT):BH.KT:=(Ik.kB rK tK,MC.kB rK tK,MD.kB rK tK,())
def BH.kL (rK:B8.T) (n:Nat):BH.KT:=Bd (BH.kS rK) n
def BH.k0 (rK:B8.T) (tK:BH.KT) (t1:Int) (k0:ER) (k1:EF):R2 Int ER EF:=
 (FH.k k0).bind fun y2=>
 let z1:R2 Int ER EF:=
 (Iv.kr rK (List.getD (ER.p y2.2.1).nodes t1.toNat Dop.d5) y2.2.1 k1).bind C8
 ci (!y2.1.1) (Ar 0 y2.2.1 k1)<|
 ck (0<=t1/\t1<I (ER.p y2.2.1).nodes.length)<|
 ci ((List.getD (ER.p y2.2.1).nodes t1.toNat Dop.d5).kind=1) (Ar ((List.getD (ER.p y2.2.1).nodes t1.toNat Dop.d5).n) y2.2.1 k1)<|
 ci ((List.getD (ER.p y2.2.1).nodes t1.toNat Dop.d5).kind=2) (ck (0<=(List.getD (ER.p y2.2.1).nodes t1.toNat Dop.d5).n/\(List.getD (ER.p y2.2.1).nodes t1.toNat Dop.d5).n<I k1.A7.length)<|
 ck ((List.getD (ER.p y2.2.1).nodes t1.toNat Dop.d5).n.toNat<k1.A7.length)<|
 Ar (List.getD k1.A7 (List.getD (ER.p y2.2.1).nodes t1.toNat Dop.d5).n.toNat 0) y2.2.1 k1)<|
 ci ((List.getD (ER.p y2.2.1).nodes t1.toNat Dop.d5).kind=3) (ck (Al (k1.base+(List.getD (ER.p y2.2.1).nodes t1.toNat Dop.d5).n))<|
 (Dz.k (k1.base+(List.getD (ER.p y2.2.1).nodes t1.toNat Dop.d5).n)).bind fun y1=>
 Ar y1.1.1 y2.2.1 k1)<|
 ci ((List.getD (ER.p y2.2.1).nodes t1.toNat Dop.d5).kind=4) (ci ((List.getD (ER.p y2.2.1).nodes t1.toNat Dop.d5).kind=4) (z1)<|
 tK.1 ((List.getD (ER.p y2.2.1).nodes t1.toNat Dop.d5).kind) y2.2.1 k1 (List.getD (ER.p y2.2.1).nodes t1.toNat Dop.d5))<|
 ci ((List.getD (ER.p y2.2.1).nodes t1.toNat Dop.d5).kind=5) (z1)<|
 tK.1 ((List.getD (ER.p y2.2.1).nodes t1.toNat Dop.d5).kind) y2.2.1 k1 (List.getD (ER.p y2.2.1).nodes t1.toNat Dop.d5)
def BH.kf (rK:B8.T) (t1:Int) (k0:ER) (k1:EF):R2 Int ER EF:=BH.k0 rK (BH.kL rK 1000000) t1 k0 k1
def Iv.kf (rK:B8.T) (x:Dop.AV) (k0:ER) (k1:EF):R2 Int ER EF:=
 (BH.kr rK x.a k0 k1).bind fun y4=>
 ci (x.kind=5) ((BH.kr rK x.b y4.2.1 y4.2.2.1).bind fun y3=>
 ci (!(ER.end_ y3.2.1=0)) (Ar 0 y3.2.1 y3.2.2.1)<|
 (Ge.k y4.1.1).bind fun y2=>
 ci (y2.1.1<1) ((MX.k 2 1 y3.2.1).bind fun y1=>
 Ar 0 y1.2.1 y3.2.2.1)<|
 ci (I (ER.mem y3.2.1).length<=y2.1.1) ((MX.k 2 1 y3.2.1).bind fun y1=>
 Ar 0 y1.2.1 y3.2.2.1)<|
 ck (0<=y2.1.1/\y2.1.1<I (ER.mem y3.2.1).length)<|
 ci (x.kind=4) (ck (y2.1.1.toNat<(ER.mem y3.2.1).length)<|
 Ar (List.getD (ER.mem y3.2.1) y2.1.1.toNat 0) y3.2.1 y3.2.2.1)<|
 ck (y2.1.1.toNat<(ER.mem y3.2.1).length)<|
 Ar y3.1.1 (ER.Zk y3.2.1 ((ER.mem y3.2.1).set y2.1.1.toNat y3.1.1)) y3.2.2.1)<|
 ci (!(ER.end_ y4.2.1=0)) (Ar 0 y4.2.1 y4.2.2.1)<|
 (Ge.k y4.1.1).bind fun y2=>
 ci (y2.1.1<1) ((MX.k 2 1 y4.2.1).bind fun y1=>
 Ar 0 y1.2.1 y4.2.2.1)<|
 ci (I (ER.mem y4.2.1).length<=y2.1.1) ((MX.k 2 1 y4.2.1).bind fun y1=>
 Ar 0 y1.2.1 y4.2.2.1)<|
 ck (0<=y2.1.1/\y2.1.1<I (ER.mem y4.2.1).length)<|
 ci (x.kind=4) (ck (y2.1.1.toNat<(ER.mem y4.2.1).length)<|
 Ar (List.getD (ER.mem y4.2.1) y2.1.1.toNat 0) y4.2.1 y4.2.2.1)<|
 ck (y2.1.1.toNat<(ER.mem y4.2.1).length)<|
 Ar 0 (ER.Zk y4.2.1 ((ER.mem y4.2.1).set y2.1.1.toNat 0)) y4.2.2.1
def Fb.kf (rK:B8.T) (n:Int) (k1:ER) (k3:EF):Option ((Int×Unit)×((Unit×Unit)×ER×(Unit×Unit)×EF×Unit)):=
 (BH.kr rK n k1 k3).bind fun y1=>
 some ((y1.1.1,()),(((),()),(y1.2.1,(((),()),(y1.2.2.1,())))))
def HH.kf (rK:B8.T) (x:Dop.AV) (k0:ER) (k1:EF):R2 Int ER EF:=
 (BH.kr rK x.a k0 k1).bind fun y4=>
 ci (x.kind=8) ((BH.kr rK x.b y4.2.1 y4.2.2.1).bind fun y3=>
 ci (!(ER.end_ y3.2.1=0)) (Ar 0 y3.2.1 y3.2.2.1)<|
 (An.k x.n y4.1.1 y3.1.1).bind fun y2=>
 ci (!y2.1.2.1) ((MX.k 2 2 y3.2.1).bind fun y1=>
 Ar y1.1.1 y1.2.1 y3.2.2.1)<|
 Ar y2.1.1 y3.2.1 y3.2.2.1)<|
 ci (!(ER.end_ y4.2.1=0)) (Ar 0 y4.2.1 y4.2.2.1)<|
 (An.k x.n y4.1.1 0).bind fun y2=>
 ci (!y2.1.2.1) ((MX.k 2 2 y4.2.1).bind fun y1=>
 Ar y1.1.1 y1.2.1 y4.2.2.1)<|
 Ar y2.1.1 y4.2.1 y4.2.2.1
abbrev QJ.T:Type:=Int->ER->EF->Dop.AV->R2 Int ER EF
abbrev QK.T:Type:=Int->Bool->ER->EF->Dop.AV->R2 Int ER EF
abbrev ME.T:Type:=Int->Bool->Int->ER->EF->Dop.AV->R2 Int ER EF
abbrev MF.T:Type:=Int->ER->EF->R2 Int ER EF
abbrev MG.T:Type:=Int->Bool->ER->EF->Dop.AV->R2 Int ER EF
abbrev MH.T:Type:=Int->Bool->ER->EF->Dop.AV->R2 Int ER EF
abbrev Bn.KT:Type:=QJ.T×QK.T×ME.T×MF.T×MG.T×MH.T×Unit
def QJ.kB (rK:B8.T) (tK:Bn.KT):QJ.T:=fun t7 k0 k1 b2=>
 ci (!(k1.OG=0)) (tK.2.1 t7 true k0 k1 b2)<|
 tK.2.1 t7 (decide (b2.kind=33)) k0 k1 b2
def QK.kB (rK:B8.T) (tK:Bn.KT):QK.T:=fun t7 t8 k0 k1 b2=>
 ci (b2.kind=34) (tK.2.2.1 t7 t8 b2.b k0 k1 b2)<|
 tK.2.2.1 t7 t8 b2.a k0 k1 b2
def ME.kB (rK:B8.T) (tK:Bn.KT):ME.T:=fun t7 t8 t9 k0 k1 b2=>
 let A1:=DA.kr rK t7 k0 k1
 let F1:Y2 Int ER EF->R2 Int ER EF:=fun y1=>
 ci (y1.1.1=1) (Ar 0 y1.2.1 y1.2.2.1)<|
 ci (y1.1.1=3) (ci (y1.1.1=3) (tK.2.2.2.1 y1.1.1 y1.2.1 y1.2.2.1)<|
 tK.2.2.2.2.1 t7 false y1.2.1 y1.2.2.1 b2)<|
 ci (y1.1.1=4) (ci (y1.1.1=4) (tK.2.2.2.1 y1.1.1 y1.2.1 y1.2.2.1)<|
 tK.2.2.2.2.1 t7 false y1.2.1 y1.2.2.1 b2)<|
 ci (y1.1.1=5) (tK.2.2.2.1 y1.1.1 y1.2.1 y1.2.2.1)<|
 tK.2.2.2.2.1 t7 false y1.2.1 y1.2.2.1 b2
 let z1:R2 Int ER EF:=
 ci (!t8) (ci (t9<0) ((FH.k k0).bind fun y2=>
 ci (!y2.1.1) (Ar 5 y2.2.1 k1)<|
 (DA.kr rK t7 y2.2.1 k1).bind F1)<|
 A1.bind F1)<|
 A1.bind F1
 ci (!t8) (ci (0<=t9) ((BH.kr rK t9 k0 k1).bind fun y3=>
 ci (y3.1.1=0) (Ar 0 y3.2.1 y3.2.2.1)<|
 ci (!t8) (ci (t9<0) ((FH.k y3.2.1).bind fun y2=>
 ci (!y2.1.1) (Ar 5 y2.2.1 y3.2.2.1)<|
 (DA.kr rK t7 y2.2.1 y3.2.2.1).bind F1)<|
 (DA.kr rK t7 y3.2.1 y3.2.2.1).bind F1)<|
 (DA.kr rK t7 y3.2.1 y3.2.2.1).bind F1)<|
 z1)<|
 z1
def MF.kB (rK:B8.T) (tK:Bn.KT):MF.T:=fun t10 k0 k1=>
 Ar t10 k0 k1
def MG.kB (rK:B8.T) (tK:Bn.KT):MG.T:=fun t7 t8 k0 k1 b2=>
 ci (b2.kind=34) (ci (0<=b2.c) ((BH.kr rK b2.c k0 k1).bind fun y1=>
 tK.2.2.2.2.2.1 t7 t8 y1.2.1 y1.2.2.1 b2)<|
 tK.2.2.2.2.2.1 t7 t8 k0 k1 b2)<|
 tK.2.2.2.2.2.1 t7 t8 k0 k1 b2
def MH.kB (rK:B8.T) (tK:Bn.KT):MH.T:=fun t7 t8 k0 k1 b2=>
 ci (!(k0.end_=0)) (Ar 5 k0 k1)<|
 tK.2.1 t7 t8 k0 k1 b2
def Bn.kS (rK:B8.T) (tK:Bn.KT):Bn.KT:=(QJ.kB rK tK,QK.kB rK tK,ME.kB rK tK,MF.kB rK tK,MG.kB rK tK,MH.kB rK tK,())
def Bn.kL (rK:B8.T) (n:Nat):Bn.KT:=Bd (Bn.kS rK) n
def Bn.k0 (rK:B8.T) (tK:Bn.KT) (t1:Dop.AV) (k0:ER) (k1:EF):R2 Int ER EF:=
 ci (t1.kind=34) (ci (k1.OG=0) (ci (0<=t1.a) ((BH.kr rK t1.a k0 k1).bind fun y1=>
 tK.1 t1.d y1.2.1 y1.2.2.1 t1)<|
 tK.1 t1.d k0 k1 t1)<|
 tK.1 t1.d k0 k1 t1)<|
 tK.1 t1.b k0 k1 t1
def Bn.kf (rK:B8.T) (t1:Dop.AV) (k0:ER) (k1:EF):R2 Int ER EF:=Bn.k0 rK (Bn.kL rK 1000000) t1 k0 k1
def Ha.kf (rK:B8.T) (x:Dop.AV) (k0:ER) (k1:EF):R2 Int ER EF:=(AU (S:=Dop.D4) prog 109 tb (B8.ct rK++[Da.JE]) Ha.p).Ei 3000 1000000 Ha.p.sp (((),x,(),()),(k0,k1,()))
def B8.kS (r:B8.T):B8.T:=(fun x=>m64.kf r x.1.2.1 x.1.2.2.1 x.2.1,fun x=>DA.kf r x.1.2.1 x.2.1 x.2.2.1,fun x=>BW.kf r x.1.2.1 x.2.1 x.2.2.1,fun x=>BH.kf r x.1.2.1 x.2.1 x.2.2.1,fun x=>Iv.kf r x.1.2.1 x.2.1 x.2.2.1,fun x=>Fb.kf r x.1.1 x.2.2.1 x.2.2.2.2.1,fun x=>HH.kf r x.1.2.1 x.2.1 x.2.2.1,fun x=>Bn.kf r x.1.2.1 x.2.1 x.2.2.1,fun x=>Ha.kf r x.1.2.1 x.2.1 x.2.2.1,())
def B8.kR (n:Nat):B8.T:=Bd B8.kS n
def m64.Kc (n:Nat):=kd 18 m64.p (B8.kR n).1
def m64.JE:=m64.Kc FU
def m64.k:=m64.kr (B8.kR FU)
def DA.Kc (n:Nat):=kd 37 DA.p (B8.kR n).2.1
def BW.Kc (n:Nat):=kd 65 BW.p (B8.kR n).2.2.1
def BH.Kc (n:Nat):=kd 107 BH.p (B8.kR n).2.2.2.1
def Iv.Kc (n:Nat):=kd 128 Iv.p (B8.kR n).2.2.2.2.1
def Fb.Kc (n:Nat):=kd 127 Fb.p (B8.kR n).2.2.2.2.2.1
def HH.Kc (n:Nat):=kd 129 HH.p (B8.kR n).2.2.2.2.2.2.1
def Bn.Kc (n:Nat):=kd 108 Bn.p (B8.kR n).2.2.2.2.2.2.2.1
def Ha.Kc (n:Nat):=kd 109 Ha.p (B8.kR n).2.2.2.2.2.2.2.2.1
def B8.PY (n:Nat):List (BU Dop.D4):=[m64.Kc n,DA.Kc n,BW.Kc n,BH.Kc n,Iv.Kc n,Fb.Kc n,HH.Kc n,Bn.Kc n,Ha.Kc n]
theorem B8.Dx: ∀ n,(m64.Kc n).Holds prog/\(DA.Kc n).Holds prog/\(BW.Kc n).Holds prog/\(BH.Kc n).Holds prog/\(Iv.Kc n).Holds prog/\(Fb.Kc n).Holds prog/\(HH.Kc n).Holds prog/\(Bn.Kc n).Holds prog/\(Ha.Kc n).Holds prog/\True
 | 0=>⟨AR AJ m64.ok,AR AJ DA.ok,AR AJ BW.ok,AR AJ BH.ok,AR AJ Iv.ok,AR AJ Fb.ok,AR AJ HH.ok,AR AJ Bn.ok,AR AJ Ha.ok,trivial⟩
 | n+1=>by
  obtain ⟨h0,h1,h2,h3,h4,h5,h6,h7,h8,_⟩:=B8.Dx n
  have hh: ∀ c∈B8.PY n,c.Holds prog:=(hc h0 (hc h1 (hc h2 (hc h3 (hc h4 (hc h5 (hc h6 (hc h7 (hc h8 hn)))))))))
  exact ⟨GB AJ (Ad hh (hc MX.Kh (hc FH.Kh hn))) m64.ok (fun t x=>m64.k0 (B8.kR n) t x.1.2.1 x.1.2.2.1 x.2.1) (fun c=>(fun k0 b1 k2=>c 9 m64.q9 rfl (((),(),(),()),(k0,(b1,()),k2,())),fun k0 b1 k2=>c 100009 m64.VE rfl (((),(),(),()),(k0,(b1,()),k2,())),())) (m64.kS (B8.kR n)) (by kernel_rfl),
   kh AJ (Ad hh (hc Da.Hi (hc FH.Kh hn))) DA.ok (by kernel_rfl),
   GB AJ (Ad hh (hc Da.Hi (hc DH.Kh hn))) BW.ok (fun t x=>BW.k0 (B8.kR n) t x.1.2.1 x.2.1 x.2.2.1) (fun c=>(fun t11 k0 k1 b2=>c 18 BW.dP rfl (((),(),(),t11,()),(k0,k1,(b2,()),())),fun k0 k1 b2=>c 35 BW.pC rfl (((),(),(),()),(k0,k1,(b2,()),())),fun t11 k0 k1 b2=>c 38 BW.pD rfl (((),(),(),t11,()),(k0,k1,(b2,()),())),fun t182 t183 t184 k0 k1=>c 42 BW.pG rfl (((),(),t182,t183,t184,()),(k0,k1,())),())) (BW.kS (B8.kR n)) (by kernel_rfl),
   GB AJ (Ad hh (hc FH.Kh (hc Dz.Kh (hc KH.Kh (hc DH.Kh (hc Sc.Kh hn)))))) BH.ok (fun t x=>BH.k0 (B8.kR n) t x.1.2.1 x.2.1 x.2.2.1) (fun c=>(fun t28 k0 k1 b4=>c 15 BH.gB rfl (((),(),(),(),t28,()),(k0,k1,((),()),((),()),(b4,()),())),fun t28 k0 k1 b3=>c 23 BH.kj rfl (((),(),(),t28,()),(k0,k1,((),()),(b3,()),((),()),())),fun t10 t140 t141 t142 k0 k1 b3=>c 34 BH.pB rfl (((),(),(),t10,t140,t141,t142,()),(k0,k1,((),()),(b3,()),((),()),())),())) (BH.kS (B8.kR n)) (by kernel_rfl),
   kh AJ (Ad hh (hc Ge.Kh (hc MX.Kh hn))) Iv.ok (by kernel_rfl),
   kh AJ (Ad hh hn) Fb.ok (by kernel_rfl),
   kh AJ (Ad hh (hc An.Kh (hc MX.Kh hn))) HH.ok (by kernel_rfl),
   GB AJ (Ad hh (hc FH.Kh hn)) Bn.ok (fun t x=>Bn.k0 (B8.kR n) t x.1.2.1 x.2.1 x.2.2.1) (fun c=>(fun t7 k0 k1 b2=>c 6 Bn.q6 rfl (((),(),(),t7,()),(k0,k1,(b2,()),())),fun t7 t8 k0 k1 b2=>c 7 Bn.q7 rfl (((),(),(),t7,t8,()),(k0,k1,(b2,()),())),fun t7 t8 t9 k0 k1 b2=>c 10 Bn.WK rfl (((),(),(),t7,t8,t9,()),(k0,k1,(b2,()),())),fun t10 k0 k1=>c 22 Bn.ki rfl ((t10,()),(k0,k1,())),fun t7 t8 k0 k1 b2=>c 23 Bn.kj rfl (((),(),(),t7,t8,()),(k0,k1,(b2,()),())),fun t7 t8 k0 k1 b2=>c 25 Bn.o6 rfl (((),(),(),t7,t8,()),(k0,k1,(b2,()),())),())) (Bn.kS (B8.kR n)) (by kernel_rfl),
   kh AJ (Ad hh (hc Da.Hi hn)) Ha.ok (by kernel_rfl),
   trivial⟩
theorem m64.Hi:m64.JE.Holds prog:=(B8.Dx FU).1
abbrev Ld.T:Type:=List Dop.PX->Int->Int->Dop.Hm->Int->Int->List Int->ER->C9 Dop.UO
abbrev He.KT:Type:=Ld.T×Unit
def Ld.kB (tK:He.KT):Ld.T:=fun t22 t23 t24 b0 b1_0 b1_1 b1_2 k2=>
 let A1:=List.getD t22 t24.toNat Dop.d12
 ci (t24<t23) (ck (0<=t24/\t24<I t22.length)<|
 ck (0<=A1.at_/\A1.at_<I k2.mem.length)<|
 ck (A1.at_.toNat<k2.mem.length)<|
 ck (Al (t24+1))<|
 tK.1 t22 t23 (t24+1) b0 b1_0 b1_1 b1_2 ((ER.Zk k2 (k2.mem.set A1.at_.toNat A1.cz))))<|
 (Sc.k b0 ([109,97,105,110]:List UInt8)).bind fun y3=>
 (m64.k y3.1.1 [] k2).bind fun y2=>
 ci (ER.end_ y2.2.1=0) ((MX.k 1 y2.1.1 y2.2.1).bind fun y1=>
 Aw (Dop.UO.mk (ER.end_ y1.2.1) (ER.code y1.2.1) (ER.out y1.2.1)))<|
 Aw (Dop.UO.mk (ER.end_ y2.2.1) (ER.code y2.2.1) (ER.out y2.2.1))
def He.kS (tK:He.KT):He.KT:=(Ld.kB tK,())
def He.kL (n:Nat):He.KT:=Bd He.kS n
def He.k0 (tK:He.KT) (p:Dop.Hm) (input:List Int) (fuel:Int):C9 Dop.UO:=
 ck ((0:Int)<=4096/\(4096:Int)<=4096/\4096*(I (8:Nat)+1)<=140737488355328)<|
 tK.1 p.globals (I p.globals.length) 0 p 0 0 [] ((p,List.replicate (Int.toNat 4096) 0,p.top,input,[],if 1000000<if fuel<0 then 0 else fuel then 1000000 else if fuel<0 then 0 else fuel,0,0,(0:Int),(),()))
def He.k (p:Dop.Hm) (input:List Int) (fuel:Int):C9 Dop.UO:=He.k0 (He.kL 1000000) p input fuel
def He.Kc:=kd 11 He.p fun x=>He.k x.1.1 x.1.2.1 x.1.2.2.1
theorem He.Kh:He.Kc.Holds prog:=GB AJ (hc Sc.Kh (hc m64.Hi (hc MX.Kh hn))) He.ok (fun t x=>He.k0 t x.1.1 x.1.2.1 x.1.2.2.1) (fun c=>(fun t22 t23 t24 b0 b1_0 b1_1 b1_2 k2=>c 3 He.q3 rfl (((),(),(),t22,t23,t24,()),((b0,()),(b1_0,b1_1,b1_2,()),k2,())),())) He.kS (by kernel_rfl)
def Rm.k (s:List UInt8) (input:List Int) (fuel:Int):Hj Dop.UO Int:=
 (m18.k s).bind fun y2=>
 ci (!(y2.1.2.2.1=0)) (D8 (Dop.UO.mk 0 0 []) y2.1.2.2.1)<|
 (He.k y2.1.1 input fuel).bind fun y1=>
 D8 y1.1.1 0
def Rm.Kc:=kd 6 Rm.p fun x=>Rm.k x.1.1 x.1.2.1 x.1.2.2.1
theorem Rm.Kh:Rm.Kc.Holds prog:=kh AJ (hc m18.Kh (hc He.Kh hn)) Rm.ok (by kernel_rfl)
def Yf.k :C9 Bool:=
 (Rm.k ([105,110,116,32,109,97,105,110,40,41,123,112,117,116,99,40,54,53,41,59,114,101,116,117,114,110,32,55,59,125]:List UInt8) [] 100).bind fun y1=>
 ci (y1.1.2.1=0) (ci (y1.1.1.end_=1) (ci (y1.1.1.code=7) (ci (I y1.1.1.output.length=1) (ck ((0:Int)<=0/\0<I y1.1.1.output.length)<|
 Aw (decide (List.getD y1.1.1.output (Int.toNat 0) (0:Int)=65)))<|
 Aw false)<|
 Aw false)<|
 Aw false)<|
 Aw false
def Yf.Kc:=kd 4 Yf.p fun x=>Yf.k
theorem Yf.Kh:Yf.Kc.Holds prog:=kh AJ (hc Rm.Kh hn) Yf.ok (by kernel_rfl)
end
end Go.Proofs.Tryz
