/-
 Functions in plain words (what their equations say), and their contracts. Written by a program.
-/
import Derived.Test.YtkpggdcpaeanaaaGreatDoorMt
import Derived.Test.YtkpggdcpaeanaaaGreatDoorMp
set_option linter.all false
set_option maxRecDepth 100000
set_option maxHeartbeats 4000000
namespace Go.Proofs.Tryz
open Go Go.En
noncomputable section
def XJ.k (f:Dop.EY) (b0:List UInt8):R1 Bool (List UInt8×Unit):=
 CJ (decide (f.name=b0)) (b0,())
def XJ.Kc:=kd 55 XJ.p fun x=>XJ.k x.1.1 x.2.1.1
theorem XJ.Kh:XJ.Kc.Holds prog:=kh AH hn XJ.ok (by kernel_rfl)
abbrev Jf.T:Type:=List Dop.EY->Int->Int->List UInt8->R1 Int (List UInt8×Unit)
abbrev BG.KT:Type:=Jf.T×Unit
def Jf.kB (tK:BG.KT):Jf.T:=fun s t7 t8 b0=>
 ci (t8<t7) (ck (0<=t8/\t8<I s.length)<|
 (XJ.k (List.getD s t8.toNat Dop.d11) b0).bind fun y3=>
 ci y3.1.1 (CJ t8 (y3.2.1.1,()))<|
 ck (Au (t8+1))<|
 tK.1 s t7 (t8+1) y3.2.1.1)<|
 CJ (-1) (b0,())
def BG.kS (tK:BG.KT):BG.KT:=(Jf.kB tK,())
def BG.kL (n:Nat):BG.KT:=DA BG.kS n
def BG.k0 (tK:BG.KT) (s:List Dop.EY) (b0:List UInt8):R1 Int (List UInt8×Unit):=
 tK.1 s (I s.length) 0 b0
def BG.k (s:List Dop.EY) (b0:List UInt8):R1 Int (List UInt8×Unit):=BG.k0 (BG.kL 1000000) s b0
def BG.Kc:=kd 54 BG.p fun x=>BG.k x.1.1 x.2.1.1
theorem BG.Kh:BG.Kc.Holds prog:=GD AH (hc XJ.Kh hn) BG.ok (fun t x=>BG.k0 t x.1.1 x.2.1.1) (fun c=>(fun s t7 t8 b0=>c 2 BG.q2 rfl ((s,(),t7,t8,()),((b0,()),())),())) BG.kS (by kernel_rfl)
def Un.k (p:Dop.I8) (name:List UInt8):FN Int:=
 (BG.k p.funcs name).bind kA
def Un.Kc:=kd 25 Un.p fun x=>Un.k x.1.1 x.1.2.1
theorem Un.Kh:Un.Kc.Holds prog:=kh AH (hc BG.Kh hn) Un.ok (by kernel_rfl)
def Li.k (end_ code:Int) (k0:ER):R1 Int ER:=
 ci (k0.end_=0) (CJ 0 (ER.dM (ER.dN k0 end_) code))<|
 CJ 0 k0
def Li.Kc:=kd 65 Li.p fun x=>Li.k x.1.2.1 x.1.2.2.1 x.2.1
theorem Li.Kh:Li.Kc.Holds prog:=kh AH hn Li.ok (by kernel_rfl)
def Me.k (p:Dop.I8) (n:Int):FN Dop.AU:=
 let A1:=CW (Dop.AU.mk 0 (-1) (-1) (-1) (-1) [] 0 0 0)
 ci (n<0) A1<|
 ci (I p.nodes.length<=n) A1<|
 ck (0<=n/\n<I p.nodes.length)<|
 CW (List.getD p.nodes n.toNat Dop.d5)
def Me.Kc:=kd 152 Me.p fun x=>Me.k x.1.1 x.1.2.1
theorem Me.Kh:Me.Kc.Holds prog:=kh AH hn Me.ok (by kernel_rfl)
abbrev PA.T:Type:=Int->List Int->Int->Int->Dop.I8->FN (List Int)
abbrev DD.KT:Type:=PA.T×Unit
def PA.kB (tK:DD.KT):PA.T:=fun n out t9 t10 b0=>
 ci (t10<t9) ((Me.k b0 n).bind fun y3=>
 ci (!(y3.1.1.kind=20)) (CW out)<|
 ck (Cq none (room 8 (out.length+(y3.1.1.a::[]).length)))<|
 ck (Au (t10+1))<|
 tK.1 y3.1.1.b (out++y3.1.1.a::[]) t9 (t10+1) b0)<|
 CW out
def DD.kS (tK:DD.KT):DD.KT:=(PA.kB tK,())
def DD.kL (n:Nat):DD.KT:=DA DD.kS n
def DD.k0 (tK:DD.KT) (p:Dop.I8) (n:Int):FN (List Int):=
 tK.1 n [] (I p.nodes.length) 0 p
def DD.k (p:Dop.I8) (n:Int):FN (List Int):=DD.k0 (DD.kL 1000000) p n
def DD.Kc:=kd 114 DD.p fun x=>DD.k x.1.1 x.1.2.1
theorem DD.Kh:DD.Kc.Holds prog:=GD AH (hc Me.Kh hn) DD.ok (fun t x=>DD.k0 t x.1.1 x.1.2.1) (fun c=>(fun n out t9 t10 b0=>c 3 DD.q3 rfl ((n,(),out,t9,t10,()),((b0,()),())),())) DD.kS (by kernel_rfl)
abbrev DF.kr (r:EE.T) (t1:Int) (k0:ER) (k1:EF):R2 Bool ER EF:=r.1 (((),t1,(),()),(k0,k1,()))
def DF.kf (rK:EE.T) (t1:Int) (k0:ER) (k1:EF):R2 Bool ER EF:=(Ae (S:=Dop.D4) prog 153 tb (EE.ct rK++[DD.Kc]) DF.p).Fm 3000 1000000 DF.p.sp (((),t1,(),()),(k0,k1,()))
def Bf.kf (rK:EE.T) (s:List Int) (k1:ER) (k3:EF):Option ((Bool×Unit)×((Unit×Unit)×ER×(Unit×Unit)×EF×Unit)):=(Ae (S:=Dop.D4) prog 183 tb (EE.ct rK++[]) Bf.p).Fm 3000 1000000 Bf.p.sp ((s,(),()),(((),()),k1,((),()),k3,()))
def BJ.kf (rK:EE.T) (s:List Int) (k1:ER) (k3:EF):Option ((Int×Unit)×((Unit×Unit)×ER×(Unit×Unit)×EF×Unit)):=(Ae (S:=Dop.D4) prog 209 tb (EE.ct rK++[]) BJ.p).Fm 3000 1000000 BJ.p.sp ((s,(),()),(((),()),k1,((),()),k3,()))
def H7.kf (rK:EE.T) (s:Int) (k1:ER) (k3:EF):Option ((Bool×Unit)×((Unit×Unit)×ER×(Unit×Unit)×EF×Unit)):=(Ae (S:=Dop.D4) prog 184 tb (EE.ct rK++[]) H7.p).Fm 3000 1000000 H7.p.sp ((s,(),(),()),(((),()),k1,((),()),k3,()))
def EE.kS (r:EE.T):EE.T:=(fun x=>DF.kf r x.1.2.1 x.2.1 x.2.2.1,fun x=>Bf.kf r x.1.1 x.2.2.1 x.2.2.2.2.1,fun x=>BJ.kf r x.1.1 x.2.2.1 x.2.2.2.2.1,fun x=>H7.kf r x.1.1 x.2.2.1 x.2.2.2.2.1,())
def EE.kR (n:Nat):EE.T:=DA EE.kS n
def DF.Kc (n:Nat):=kd 153 DF.p (EE.kR n).1
def DF.Lv:=DF.Kc FU
def DF.k:=DF.kr (EE.kR FU)
def Bf.Kc (n:Nat):=kd 183 Bf.p (EE.kR n).2.1
def BJ.Kc (n:Nat):=kd 209 BJ.p (EE.kR n).2.2.1
def H7.Kc (n:Nat):=kd 184 H7.p (EE.kR n).2.2.2.1
def EE.RY (n:Nat):List (Bp Dop.D4):=[DF.Kc n,Bf.Kc n,BJ.Kc n,H7.Kc n]
theorem EE.Ej: ∀ n,(DF.Kc n).Holds prog/\(Bf.Kc n).Holds prog/\(BJ.Kc n).Holds prog/\(H7.Kc n).Holds prog/\True
 | 0=>⟨AN AH DF.ok,AN AH Bf.ok,AN AH BJ.ok,AN AH H7.ok,trivial⟩
 | n+1=>by
  obtain ⟨h0,h1,h2,h3,_⟩:=EE.Ej n
  have hh: ∀ c∈EE.RY n,c.Holds prog:=(hc h0 (hc h1 (hc h2 (hc h3 hn))))
  exact ⟨kh AH (Ab hh (hc DD.Kh hn)) DF.ok (by kernel_rfl),
   kh AH (Ab hh hn) Bf.ok (by kernel_rfl),
   kh AH (Ab hh hn) BJ.ok (by kernel_rfl),
   kh AH (Ab hh hn) H7.ok (by kernel_rfl),
   trivial⟩
theorem DF.ID:DF.Lv.Holds prog:=(EE.Ej FU).1
def E6.k (k0:ER):R1 Bool ER:=
 ci (!(k0.end_=0)) (CJ false k0)<|
 ci (k0.fuel=0) ((Li.k 4 0 k0).bind fun y4=>
 CJ false y4.2.1)<|
 ck (Au (k0.fuel -1))<|
 CJ true (ER.dP k0 (k0.fuel -1))
def E6.Kc:=kd 117 E6.p fun x=>E6.k x.2.1
theorem E6.Kh:E6.Kc.Holds prog:=kh AH (hc Li.Kh hn) E6.ok (by kernel_rfl)
def FM.k (n:Int):FN Int:=
 ck (Au (IntKind.u32.wrap n))<|
 CW (IntKind.u32.wrap n)
def FM.Kc:=kd 255 FM.p fun x=>FM.k x.1.1
theorem FM.Kh:FM.Kc.Holds prog:=kh AH hn FM.ok (by kernel_rfl)
def Dn.k (n:Int):Lx Int Bool:=
 (EH.k n).bind fun y2=>
 I5 y2.1.1 true
def Dn.Kc:=kd 256 Dn.p fun x=>Dn.k x.1.1
theorem Dn.Kh:Dn.Kc.Holds prog:=kh AH (hc EH.Kh hn) Dn.ok (by kernel_rfl)
abbrev PK.T:Type:=OW Int Int Bool
abbrev Dp.KT:Type:=PK.T×Unit
def PK.kB (tK:Dp.KT):PK.T:=
 Ln 0 0 false
def Dp.kS (tK:Dp.KT):Dp.KT:=(PK.kB tK,())
def Dp.kL (n:Nat):Dp.KT:=DA Dp.kS n
def Dp.k0 (tK:Dp.KT) (a b:Int):OW Int Int Bool:=
 ci (b=0) (tK.1)<|
 ck (b≠0/\Au (a.tdiv b)=true)<|
 ck (b≠0)<|
 Ln (a.tdiv b) (a.tmod b) true
def Dp.k (a b:Int):OW Int Int Bool:=Dp.k0 (Dp.kL 1000000) a b
def Dp.Kc:=kd 257 Dp.p fun x=>Dp.k x.1.1 x.1.2.1
theorem Dp.Kh:Dp.Kc.Holds prog:=GD AH hn Dp.ok (fun t x=>Dp.k0 t x.1.1 x.1.2.1) (fun c=>(c 3 Dp.q3 rfl ((),()),())) Dp.kS (by kernel_rfl)
def HT.k (is:Bool):FN Int:=
 ci is (CW 1)<|
 CW 0
def HT.Kc:=kd 258 HT.p fun x=>HT.k x.1.1
theorem HT.Kh:HT.Kc.Holds prog:=kh AH hn HT.ok (by kernel_rfl)
abbrev Lb.T:Type:=Int->Int->Int->Lx Int Bool
abbrev Ld.T:Type:=Int->Int->Int->Int->Lx Int Bool
abbrev Lc.T:Type:=Int->Bool->Lx Int Bool
abbrev Lf.T:Type:=Int->Int->Int->Lx Int Bool
abbrev Lh.T:Type:=Int->Int->Int->Lx Int Bool
abbrev Lg.T:Type:=Int->Bool->Lx Int Bool
abbrev Bi.KT:Type:=Lb.T×Ld.T×Lc.T×Lf.T×Lh.T×Lg.T×Unit
def Lb.kB (tK:Bi.KT):Lb.T:=fun o t1 t2=>
 (Dp.k t1 t2).bind fun y2=>
 ci (o=5) (tK.2.2.1 y2.1.2.1 y2.1.2.2.1)<|
 tK.2.2.1 y2.1.1 y2.1.2.2.1
def Ld.kB (tK:Bi.KT):Ld.T:=fun o t1 t2 t19=>
 ci (t19=6) (ci (t19=6) (tK.2.2.2.1 o t1 t2)<|
 tK.2.2.2.2.1 t1 t2 t19)<|
 ci (t19=7) (tK.2.2.2.1 o t1 t2)<|
 tK.2.2.2.2.1 t1 t2 t19
def Lc.kB (tK:Bi.KT):Lc.T:=fun t9 t11=>
 (EH.k t9).bind fun y2=>
 I5 y2.1.1 t11
def Lf.kB (tK:Bi.KT):Lf.T:=fun o t1 t2=>
 (FM.k t1).bind fun y2=>
 (FM.k t2).bind fun y3=>
 (Dp.k y2.1.1 y3.1.1).bind fun y4=>
 ci (o=7) (tK.2.2.2.2.2.1 y4.1.2.1 y4.1.2.2.1)<|
 tK.2.2.2.2.2.1 y4.1.1 y4.1.2.2.1
def Lh.kB (tK:Bi.KT):Lh.T:=fun t1 t2 t19=>
 let A1:=bits BinOp.and IntKind.i64 t2 31
 ci (t19=8) ((Dn.k (bits BinOp.and IntKind.i64 t1 t2)).bind Ll)<|
 ci (t19=9) ((Dn.k (bits BinOp.or IntKind.i64 t1 t2)).bind Ll)<|
 ci (t19=10) ((Dn.k (bits BinOp.xor IntKind.i64 t1 t2)).bind Ll)<|
 ci (t19=11) (ck (0<=bits BinOp.and IntKind.i64 t2 31/\bits BinOp.and IntKind.i64 t2 31<=I IntKind.i64.bits)<|
 (Dn.k (IntKind.i64.wrap (t1*2 ^ A1.toNat))).bind Ll)<|
 ci (t19=12) (ck (0<=bits BinOp.and IntKind.i64 t2 31/\bits BinOp.and IntKind.i64 t2 31<=I IntKind.i64.bits)<|
 (Dn.k (t1 / 2 ^ A1.toNat)).bind Ll)<|
 ci (t19=13) ((FM.k t1).bind fun y8=>
 ck (0<=bits BinOp.and IntKind.i64 t2 31/\bits BinOp.and IntKind.i64 t2 31<=I IntKind.i64.bits)<|
 (Dn.k (y8.1.1 / 2 ^ A1.toNat)).bind Ll)<|
 ci (t19=14) ((HT.k (decide (t1=t2))).bind fun y9=>
 (Dn.k y9.1.1).bind Ll)<|
 ci (t19=15) ((HT.k (!decide (t1=t2))).bind fun y10=>
 (Dn.k y10.1.1).bind Ll)<|
 ci (t19=16) ((HT.k (decide (t1<t2))).bind fun y11=>
 (Dn.k y11.1.1).bind Ll)<|
 ci (t19=17) ((HT.k (decide (t1<=t2))).bind fun y12=>
 (Dn.k y12.1.1).bind Ll)<|
 ci (t19=18) ((FM.k t1).bind fun y13=>
 (FM.k t2).bind fun y14=>
 (HT.k (decide (y13.1.1<y14.1.1))).bind fun y15=>
 (Dn.k y15.1.1).bind Ll)<|
 ci (t19=19) ((FM.k t1).bind fun y14=>
 (FM.k t2).bind fun y15=>
 (HT.k (decide (y14.1.1<=y15.1.1))).bind fun y16=>
 (Dn.k y16.1.1).bind Ll)<|
 ci (t19=20) (ck (Au (-t1))<|
 (Dn.k (-t1)).bind Ll)<|
 ci (t19=21) ((Dn.k (bits BinOp.xor IntKind.i64 (-1) t1)).bind Ll)<|
 ci (t19=22) ((Dn.k (bits BinOp.and IntKind.i64 t1 255)).bind Ll)<|
 ci (t19=23) ((HT.k (decide (t1=0))).bind fun y18=>
 (Dn.k y18.1.1).bind Ll)<|
 I5 0 false
def Lg.kB (tK:Bi.KT):Lg.T:=fun t12 t14=>
 (EH.k t12).bind fun y2=>
 I5 y2.1.1 t14
def Bi.kS (tK:Bi.KT):Bi.KT:=(Lb.kB tK,Ld.kB tK,Lc.kB tK,Lf.kB tK,Lh.kB tK,Lg.kB tK,())
def Bi.kL (n:Nat):Bi.KT:=DA Bi.kS n
def Bi.k0 (tK:Bi.KT) (o t1 t2:Int):Lx Int Bool:=
 (EH.k t1).bind fun y2=>
 (EH.k t2).bind fun y3=>
 ci (o=1) (ck (Au (y2.1.1+y3.1.1))<|
 (Dn.k (y2.1.1+y3.1.1)).bind Ll)<|
 ci (o=2) (ck (Au (y2.1.1 -y3.1.1))<|
 (Dn.k (y2.1.1 -y3.1.1)).bind Ll)<|
 ci (o=3) (ck (Au (y2.1.1*y3.1.1))<|
 (Dn.k (y2.1.1*y3.1.1)).bind Ll)<|
 ci (o=4) (ci (o=4) (tK.1 o y2.1.1 y3.1.1)<|
 tK.2.1 o y2.1.1 y3.1.1 o)<|
 ci (o=5) (tK.1 o y2.1.1 y3.1.1)<|
 tK.2.1 o y2.1.1 y3.1.1 o
def Bi.k (o t1 t2:Int):Lx Int Bool:=Bi.k0 (Bi.kL 1000000) o t1 t2
def Bi.Kc:=kd 236 Bi.p fun x=>Bi.k x.1.1 x.1.2.1 x.1.2.2.1
theorem Bi.Kh:Bi.Kc.Holds prog:=GD AH (hc EH.Kh (hc Dn.Kh (hc Dp.Kh (hc FM.Kh (hc HT.Kh hn))))) Bi.ok (fun t x=>Bi.k0 t x.1.1 x.1.2.1 x.1.2.2.1) (fun c=>(fun o t1 t2=>c 12 Bi.kD rfl ((o,t1,t2,()),()),fun o t1 t2 t19=>c 16 Bi.dA rfl ((o,t1,t2,(),t19,()),()),fun t9 t11=>c 15 Bi.ak rfl ((t9,t11,()),()),fun o t1 t2=>c 18 Bi.gU rfl ((o,t1,t2,()),()),fun t1 t2 t19=>c 22 Bi.gW rfl ((t1,t2,(),t19,()),()),fun t12 t14=>c 21 Bi.gV rfl ((t12,t14,()),()),())) Bi.kS (by kernel_rfl)
def Jb.k (is:Bool):FN Int:=
 ci is (CW 1)<|
 CW 0
def Jb.Kc:=kd 213 Jb.p fun x=>Jb.k x.1.1
theorem Jb.Kh:Jb.Kc.Holds prog:=kh AH hn Jb.ok (by kernel_rfl)
abbrev Kk.T:Type:=List Int->List Int->Int->Int->FN Bool
abbrev II.KT:Type:=Kk.T×Unit
def Kk.kB (tK:II.KT):Kk.T:=fun s1 s2 t12 t13=>
 ci (t13<t12) (ck (0<=t13/\t13<I s1.length)<|
 ck (0<=t13/\t13<I s2.length)<|
 ci (!(List.getD s1 t13.toNat 0=List.getD s2 t13.toNat 0)) (CW false)<|
 ck (Au (t13+1))<|
 tK.1 s1 s2 t12 (t13+1))<|
 CW true
def II.kS (tK:II.KT):II.KT:=(Kk.kB tK,())
def II.kL (n:Nat):II.KT:=DA II.kS n
def II.k0 (tK:II.KT) (s1 s2:List Int):FN Bool:=
 ci (!(I s1.length=I s2.length)) (CW false)<|
 tK.1 s1 s2 (I s1.length) 0
def II.k (s1 s2:List Int):FN Bool:=II.k0 (II.kL 1000000) s1 s2
def II.Kc:=kd 63 II.p fun x=>II.k x.1.1 x.1.2.1
theorem II.Kh:II.Kc.Holds prog:=GD AH hn II.ok (fun t x=>II.k0 t x.1.1 x.1.2.1) (fun c=>(fun s1 s2 t12 t13=>c 4 II.q4 rfl ((s1,s2,t12,t13,()),()),())) II.kS (by kernel_rfl)
def RU.k (a b:Dop.RS):FN Bool:=
 ci (a.end_=b.end_) (ci (a.code=b.code) ((II.k a.output b.output).bind kA)<|
 CW false)<|
 CW false
def RU.Kc:=kd 34 RU.p fun x=>RU.k x.1.1 x.1.2.1
theorem RU.Kh:RU.Kc.Holds prog:=kh AH (hc II.Kh hn) RU.ok (by kernel_rfl)
abbrev m64.kr (r:Bd.T) (t1:Int) (t2:List Int) (k0:ER):R1 Int ER:=r.1 (((),t1,t2,()),(k0,()))
abbrev Cj.kr (r:Bd.T) (n:Int) (k0:ER) (k1:EF):R2 Int ER EF:=r.2.1 (((),n,(),()),(k0,k1,()))
abbrev BE.kr (r:Bd.T) (t1:Dop.AU) (k0:ER) (k1:EF):R2 Int ER EF:=r.2.2.1 (((),t1,(),()),(k0,k1,()))
abbrev BF.kr (r:Bd.T) (t1:Int) (k0:ER) (k1:EF):R2 Int ER EF:=r.2.2.2.1 (((),t1,(),()),(k0,k1,()))
abbrev Fk.kr (r:Bd.T) (x:Dop.AU) (k0:ER) (k1:EF):R2 Int ER EF:=r.2.2.2.2.1 (((),x,(),()),(k0,k1,()))
abbrev E8.kr (r:Bd.T) (n:Int) (k1:ER) (k3:EF):Option ((Int×Unit)×((Unit×Unit)×ER×(Unit×Unit)×EF×Unit)):=r.2.2.2.2.2.1 ((n,(),(),()),(((),()),k1,((),()),k3,()))
abbrev H8.kr (r:Bd.T) (x:Dop.AU) (k0:ER) (k1:EF):R2 Int ER EF:=r.2.2.2.2.2.2.1 (((),x,(),()),(k0,k1,()))
abbrev BQ.kr (r:Bd.T) (t1:Dop.AU) (k0:ER) (k1:EF):R2 Int ER EF:=r.2.2.2.2.2.2.2.1 (((),t1,(),()),(k0,k1,()))
abbrev Gv.kr (r:Bd.T) (x:Dop.AU) (k0:ER) (k1:EF):R2 Int ER EF:=r.2.2.2.2.2.2.2.2.1 (((),x,(),()),(k0,k1,()))
abbrev Kl.T:Type:=ER->Dop.EY->EF->R1 Int ER
abbrev Gb.T:Type:=ER->Dop.EY->EF->R1 Int ER
abbrev m64.KT:Type:=Kl.T×Gb.T×Unit
def Kl.kB (rK:Bd.T) (tK:m64.KT):Kl.T:=fun k0 b1 k2=>
 (Cj.kr rK b1.body k0 k2).bind fun y2=>
 ci (y2.1.1=4) ((E6.k y2.2.1).bind fun y4=>
 ci y4.1.1 (tK.2.1 y4.2.1 b1 ((EF.Pk y2.2.2.1 1)))<|
 ck (Au (ER.sp y4.2.1 -b1.frame))<|
 CJ (EF.told y2.2.2.1) (ER.X8 y4.2.1 (ER.sp y4.2.1 -b1.frame)))<|
 ck (Au (ER.sp y2.2.1 -b1.frame))<|
 CJ (EF.told y2.2.2.1) (ER.X8 y2.2.1 (ER.sp y2.2.1 -b1.frame))
def Gb.kB (rK:Bd.T) (tK:m64.KT):Gb.T:=fun k0 b1 k2=>
 (Cj.kr rK b1.body k0 k2).bind fun y2=>
 ci (y2.1.1=4) ((E6.k y2.2.1).bind fun y4=>
 ci y4.1.1 (tK.2.1 y4.2.1 b1 ((EF.Pk y2.2.2.1 1)))<|
 ck (Au (ER.sp y4.2.1 -b1.frame))<|
 CJ (EF.told y2.2.2.1) (ER.X8 y4.2.1 (ER.sp y4.2.1 -b1.frame)))<|
 ck (Au (ER.sp y2.2.1 -b1.frame))<|
 CJ (EF.told y2.2.2.1) (ER.X8 y2.2.1 (ER.sp y2.2.1 -b1.frame))
def m64.kS (rK:Bd.T) (tK:m64.KT):m64.KT:=(Kl.kB rK tK,Gb.kB rK tK,())
def m64.kL (rK:Bd.T) (n:Nat):m64.KT:=DA (m64.kS rK) n
def m64.k0 (rK:Bd.T) (tK:m64.KT) (t1:Int) (t2:List Int) (k0:ER):R1 Int ER:=
 let A1:=List.getD k0.p.funcs t1.toNat Dop.d11
 let A3:=Au (k0.sp+A1.frame)
 let A2:=List.replicate A1.Aw.toNat (0:Int)
 ci (!(k0.end_=0)) (CJ 0 k0)<|
 ci (t1<0) (CJ 0 k0)<|
 ck (0<=t1/\t1<I k0.p.funcs.length)<|
 ck A3<|
 ci (I k0.mem.length<k0.sp+A1.frame) ((Li.k 3 0 k0).bind Gh)<|
 ck (0<=A1.Aw/\A1.Aw<=A1.Aw/\A1.Aw*(I (8:Nat)+1)<=140737488355328)<|
 ck A3<|
 tK.1 ((ER.X8 k0 (k0.sp+A1.frame))) A1 ((List.getD k0.p.funcs t1.toNat Dop.d11,List.take A2.length t2++List.drop t2.length A2,k0.sp,0,[],0,0,()))
def m64.kf (rK:Bd.T) (t1:Int) (t2:List Int) (k0:ER):R1 Int ER:=m64.k0 rK (m64.kL rK 1000000) t1 t2 k0
def Cj.kf (rK:Bd.T) (n:Int) (k0:ER) (k1:EF):R2 Int ER EF:=
 ci (!(k1.KO=0)) ((DF.k n k0 k1).bind fun y3=>
 ci (!y3.1.1) (Ao 0 y3.2.1 y3.2.2.1)<|
 ci (EF.KO y3.2.2.1=0) ((E6.k y3.2.1).bind fun y6=>
 ci (!y6.1.1) (Ao 5 y6.2.1 y3.2.2.1)<|
 ck (0<=n/\n<I (ER.p y6.2.1).nodes.length)<|
 (BE.kr rK (List.getD (ER.p y6.2.1).nodes n.toNat Dop.d5) y6.2.1 y3.2.2.1).bind fun y8=>
 ci (!(ER.end_ y8.2.1=0)) (Ao 5 y8.2.1 y8.2.2.1)<|
 Ao y8.1.1 y8.2.1 y8.2.2.1)<|
 ck (0<=n/\n<I (ER.p y3.2.1).nodes.length)<|
 (BE.kr rK (List.getD (ER.p y3.2.1).nodes n.toNat Dop.d5) y3.2.1 y3.2.2.1).bind fun y6=>
 ci (!(ER.end_ y6.2.1=0)) (Ao 5 y6.2.1 y6.2.2.1)<|
 Ao y6.1.1 y6.2.1 y6.2.2.1)<|
 ci (k1.KO=0) ((E6.k k0).bind fun y4=>
 ci (!y4.1.1) (Ao 5 y4.2.1 k1)<|
 ck (0<=n/\n<I (ER.p y4.2.1).nodes.length)<|
 (BE.kr rK (List.getD (ER.p y4.2.1).nodes n.toNat Dop.d5) y4.2.1 k1).bind fun y6=>
 ci (!(ER.end_ y6.2.1=0)) (Ao 5 y6.2.1 y6.2.2.1)<|
 Ao y6.1.1 y6.2.1 y6.2.2.1)<|
 ck (0<=n/\n<I k0.p.nodes.length)<|
 (BE.kr rK (List.getD k0.p.nodes n.toNat Dop.d5) k0 k1).bind fun y4=>
 ci (!(ER.end_ y4.2.1=0)) (Ao 5 y4.2.1 y4.2.2.1)<|
 Ao y4.1.1 y4.2.1 y4.2.2.1
abbrev GZ.T:Type:=Int->ER->EF->Dop.AU->R2 Int ER EF
abbrev LJ.T:Type:=ER->EF->Dop.AU->R2 Int ER EF
abbrev Hx.T:Type:=Int->ER->EF->Dop.AU->R2 Int ER EF
abbrev Hy.T:Type:=List Int->Int->Int->ER->EF->R2 Int ER EF
abbrev BE.KT:Type:=GZ.T×LJ.T×Hx.T×Hy.T×Unit
def GZ.kB (rK:Bd.T) (tK:BE.KT):GZ.T:=fun t11 k0 k1 b2=>
 let A1:=Cj.kr rK b2.a k0 k1
 ci (t11=35) (Ao 1 k0 k1)<|
 ci (t11=36) (Ao 2 k0 k1)<|
 ci (t11=37) (ci (0<=b2.a) ((BF.kr rK b2.a k0 k1).bind fun y6=>
 Ao 3 y6.2.1 (EF.X9 y6.2.2.1 y6.1.1))<|
 Ao 3 k0 k1)<|
 ci (t11=38) (Ao 4 k0 (EF.gi k1 b2.text))<|
 ci (t11=39) (ci (k1.KO=1) (ci (k1.k8=b2.text) ((Cj.kr rK b2.a k0 ((EF.Pk k1 0))).bind CN)<|
 A1.bind CN)<|
 A1.bind CN)<|
 ci (t11=41) (ci (t11=41) (tK.2.1 k0 k1 b2)<|
 tK.2.2.1 t11 k0 k1 b2)<|
 ci (t11=42) (tK.2.1 k0 k1 b2)<|
 tK.2.2.1 t11 k0 k1 b2
def LJ.kB (rK:Bd.T) (tK:BE.KT):LJ.T:=fun k0 k1 b2=>
 let A2:=Cj.kr rK b2.a k0 k1
 let A1:=(Cj.kr rK b2.a k0 ((EF.Pk k1 0))).bind CN
 ci (k1.KO=2) (ci (b2.kind=41) (ci (b2.n=k1.key) A1<|
 ci (k1.KO=3) (ci (b2.kind=42) A1<|
 A2.bind CN)<|
 A2.bind CN)<|
 ci (k1.KO=3) (ci (b2.kind=42) A1<|
 A2.bind CN)<|
 A2.bind CN)<|
 ci (k1.KO=3) (ci (b2.kind=42) A1<|
 A2.bind CN)<|
 A2.bind CN
def Hx.kB (rK:Bd.T) (tK:BE.KT):Hx.T:=fun t11 k0 k1 b2=>
 ci (t11=40) ((Gv.kr rK b2 k0 k1).bind CN)<|
 ci (t11=43) ((DD.k k0.p b2.a).bind fun y4=>
 tK.2.2.2.1 y4.1.1 (I y4.1.1.length) 0 k0 k1)<|
 Ao 0 k0 k1
def Hy.kB (rK:Bd.T) (tK:BE.KT):Hy.T:=fun t182 t183 t184 k0 k1=>
 ci (t184<t183) (ck (0<=t184/\t184<I t182.length)<|
 ck (t184.toNat<t182.length)<|
 (Cj.kr rK (List.getD t182 t184.toNat 0) k0 k1).bind fun y3=>
 ci (!(y3.1.1=0)) (Ao y3.1.1 y3.2.1 y3.2.2.1)<|
 ck (Au (t184+1))<|
 tK.2.2.2.1 t182 t183 (t184+1) y3.2.1 y3.2.2.1)<|
 Ao 0 k0 k1
def BE.kS (rK:Bd.T) (tK:BE.KT):BE.KT:=(GZ.kB rK tK,LJ.kB rK tK,Hx.kB rK tK,Hy.kB rK tK,())
def BE.kL (rK:Bd.T) (n:Nat):BE.KT:=DA (BE.kS rK) n
def BE.k0 (rK:Bd.T) (tK:BE.KT) (t1:Dop.AU) (k0:ER) (k1:EF):R2 Int ER EF:=
 let A2:=BF.kr rK t1.a k0 k1
 let A1:=(BQ.kr rK t1 k0 k1).bind CN
 ci (t1.kind=30) (ci (0<=t1.a) (A2.bind fun y4=>
 Ao 0 y4.2.1 y4.2.2.1)<|
 Ao 0 k0 k1)<|
 ci (t1.kind=31) (ci (!(k1.KO=0)) ((DF.k t1.b k0 k1).bind fun y5=>
 ci y5.1.1 ((Cj.kr rK t1.b y5.2.1 y5.2.2.1).bind CN)<|
 (Cj.kr rK t1.c y5.2.1 y5.2.2.1).bind CN)<|
 A2.bind fun y5=>
 ci (!(y5.1.1=0)) ((Cj.kr rK t1.b y5.2.1 y5.2.2.1).bind CN)<|
 ci (0<=t1.c) (ci (ER.end_ y5.2.1=0) ((Cj.kr rK t1.c y5.2.1 y5.2.2.1).bind CN)<|
 Ao 0 y5.2.1 y5.2.2.1)<|
 Ao 0 y5.2.1 y5.2.2.1)<|
 ci (t1.kind=32) (ci (t1.kind=32) A1<|
 tK.1 t1.kind k0 k1 t1)<|
 ci (t1.kind=33) (ci (t1.kind=33) A1<|
 tK.1 t1.kind k0 k1 t1)<|
 ci (t1.kind=34) A1<|
 tK.1 t1.kind k0 k1 t1
def BE.kf (rK:Bd.T) (t1:Dop.AU) (k0:ER) (k1:EF):R2 Int ER EF:=BE.k0 rK (BE.kL rK 1000000) t1 k0 k1
abbrev LO.T:Type:=Int->ER->EF->Dop.AU->R2 Int ER EF
abbrev LP.T:Type:=Int->ER->EF->Dop.AU->R2 Int ER EF
abbrev LQ.T:Type:=List Int->List Int->Int->Int->ER->EF->Dop.AU->R2 Int ER EF
abbrev BF.KT:Type:=LO.T×LP.T×LQ.T×Unit
def LO.kB (rK:Bd.T) (tK:BF.KT):LO.T:=fun t28 k0 k1 b4=>
 let A1:=(H8.kr rK b4 k0 k1).bind CN
 ci (t28=6) ((E8.kr rK b4.a k0 k1).bind fun y3=>
 ci (ER.end_ y3.2.2.1=0) (ck (0<=b4.n/\b4.n<I (EF.Aw y3.2.2.2.2.1).length)<|
 ck (b4.n.toNat<(EF.Aw y3.2.2.2.2.1).length)<|
 Ao y3.1.1 y3.2.2.1 (EF.dQ y3.2.2.2.2.1 ((EF.Aw y3.2.2.2.2.1).set b4.n.toNat y3.1.1)))<|
 Ao y3.1.1 y3.2.2.1 y3.2.2.2.2.1)<|
 ci (t28=7) (ci (t28=7) A1<|
 tK.2.1 t28 k0 k1 b4)<|
 ci (t28=8) A1<|
 tK.2.1 t28 k0 k1 b4
def LP.kB (rK:Bd.T) (tK:BF.KT):LP.T:=fun t28 k0 k1 b3=>
 let A2:=List.getD k0.input (Int.toNat 0) 0
 let A1:=E8.kr rK b3.a k0 k1
 ci (t28=9) (A1.bind fun y3=>
 ci (!(y3.1.1=0)) ((E8.kr rK b3.b y3.2.2.1 y3.2.2.2.2.1).bind fun y5=>
 Ao y5.1.1 y5.2.2.1 y5.2.2.2.2.1)<|
 (E8.kr rK b3.c y3.2.2.1 y3.2.2.2.2.1).bind fun y5=>
 Ao y5.1.1 y5.2.2.1 y5.2.2.2.2.1)<|
 ci (t28=10) (A1.bind fun y4=>
 ci (!(y4.1.1=0)) ((E8.kr rK b3.b y4.2.2.1 y4.2.2.2.2.1).bind fun y6=>
 (Jb.k (!decide (y6.1.1=0))).bind fun y7=>
 Ao y7.1.1 y6.2.2.1 y6.2.2.2.2.1)<|
 (Jb.k false).bind fun y6=>
 Ao y6.1.1 y4.2.2.1 y4.2.2.2.2.1)<|
 ci (t28=11) (A1.bind fun y5=>
 ci (!(y5.1.1=0)) ((Jb.k true).bind fun y7=>
 Ao y7.1.1 y5.2.2.1 y5.2.2.2.2.1)<|
 (E8.kr rK b3.b y5.2.2.1 y5.2.2.2.2.1).bind fun y7=>
 (Jb.k (!decide (y7.1.1=0))).bind fun y8=>
 Ao y8.1.1 y7.2.2.1 y7.2.2.2.2.1)<|
 ci (t28=12) ((DD.k k0.p b3.a).bind fun y6=>
 tK.2.2.1 [] y6.1.1 (I y6.1.1.length) 0 k0 k1 b3)<|
 ci (t28=13) (ci (I k0.input.length=0) (Ao (-1) k0 k1)<|
 ck ((0:Int)<=0/\0<I k0.input.length)<|
 ck ((0:Int)<=1/\1<=I k0.input.length/\I k0.input.length<=I k0.input.length)<|
 ck (Au A2)<|
 Ao A2 (ER.Zw k0 (List.drop (Int.toNat 1) (List.take (I k0.input.length).toNat k0.input))) k1)<|
 ci (t28=14) (A1.bind fun y8=>
 ci (ER.end_ y8.2.2.1=0) (ck (Cq none (room 1 ((ER.out y8.2.2.1).length+(IntKind.u8.wrap (bits BinOp.and IntKind.i64 y8.1.1 255)::[]).length)))<|
 Ao (bits BinOp.and IntKind.i64 y8.1.1 255) (ER.gg y8.2.2.1 (ER.out y8.2.2.1++IntKind.u8.wrap (bits BinOp.and IntKind.i64 y8.1.1 255)::[])) y8.2.2.2.2.1)<|
 Ao (bits BinOp.and IntKind.i64 y8.1.1 255) y8.2.2.1 y8.2.2.2.2.1)<|
 A1.bind fun y8=>
 (E8.kr rK b3.b y8.2.2.1 y8.2.2.2.2.1).bind fun y9=>
 Ao y9.1.1 y9.2.2.1 y9.2.2.2.2.1
def LQ.kB (rK:Bd.T) (tK:BF.KT):LQ.T:=fun t10 t140 t141 t142 k0 k1 b3=>
 ci (t142<t141) (ck (0<=t142/\t142<I t140.length)<|
 ck (t142.toNat<t140.length)<|
 (E8.kr rK (List.getD t140 t142.toNat 0) k0 k1).bind fun y3=>
 ck (Cq none (room 8 (t10.length+(y3.1.1::[]).length)))<|
 ck (Au (t142+1))<|
 tK.2.2.1 (t10++y3.1.1::[]) t140 t141 (t142+1) y3.2.2.1 y3.2.2.2.2.1 b3)<|
 (Un.k k0.p b3.text).bind fun y3=>
 (m64.kr rK y3.1.1 t10 k0).bind fun y4=>
 Ao y4.1.1 y4.2.1 k1
def BF.kS (rK:Bd.T) (tK:BF.KT):BF.KT:=(LO.kB rK tK,LP.kB rK tK,LQ.kB rK tK,())
def BF.kL (rK:Bd.T) (n:Nat):BF.KT:=DA (BF.kS rK) n
def BF.k0 (rK:Bd.T) (tK:BF.KT) (t1:Int) (k0:ER) (k1:EF):R2 Int ER EF:=
 (E6.k k0).bind fun y2=>
 let z1:R2 Int ER EF:=
 (Fk.kr rK (List.getD (ER.p y2.2.1).nodes t1.toNat Dop.d5) y2.2.1 k1).bind CN
 ci (!y2.1.1) (Ao 0 y2.2.1 k1)<|
 ck (0<=t1/\t1<I (ER.p y2.2.1).nodes.length)<|
 ci ((List.getD (ER.p y2.2.1).nodes t1.toNat Dop.d5).kind=1) (Ao ((List.getD (ER.p y2.2.1).nodes t1.toNat Dop.d5).n) y2.2.1 k1)<|
 ci ((List.getD (ER.p y2.2.1).nodes t1.toNat Dop.d5).kind=2) (ck (0<=(List.getD (ER.p y2.2.1).nodes t1.toNat Dop.d5).n/\(List.getD (ER.p y2.2.1).nodes t1.toNat Dop.d5).n<I k1.Aw.length)<|
 ck ((List.getD (ER.p y2.2.1).nodes t1.toNat Dop.d5).n.toNat<k1.Aw.length)<|
 Ao (List.getD k1.Aw (List.getD (ER.p y2.2.1).nodes t1.toNat Dop.d5).n.toNat 0) y2.2.1 k1)<|
 ci ((List.getD (ER.p y2.2.1).nodes t1.toNat Dop.d5).kind=3) (ck (Au (k1.base+(List.getD (ER.p y2.2.1).nodes t1.toNat Dop.d5).n))<|
 (EH.k (k1.base+(List.getD (ER.p y2.2.1).nodes t1.toNat Dop.d5).n)).bind fun y7=>
 Ao y7.1.1 y2.2.1 k1)<|
 ci ((List.getD (ER.p y2.2.1).nodes t1.toNat Dop.d5).kind=4) (ci ((List.getD (ER.p y2.2.1).nodes t1.toNat Dop.d5).kind=4) (z1)<|
 tK.1 ((List.getD (ER.p y2.2.1).nodes t1.toNat Dop.d5).kind) y2.2.1 k1 (List.getD (ER.p y2.2.1).nodes t1.toNat Dop.d5))<|
 ci ((List.getD (ER.p y2.2.1).nodes t1.toNat Dop.d5).kind=5) (z1)<|
 tK.1 ((List.getD (ER.p y2.2.1).nodes t1.toNat Dop.d5).kind) y2.2.1 k1 (List.getD (ER.p y2.2.1).nodes t1.toNat Dop.d5)
def BF.kf (rK:Bd.T) (t1:Int) (k0:ER) (k1:EF):R2 Int ER EF:=BF.k0 rK (BF.kL rK 1000000) t1 k0 k1
def Fk.kf (rK:Bd.T) (x:Dop.AU) (k0:ER) (k1:EF):R2 Int ER EF:=
 (BF.kr rK x.a k0 k1).bind fun y2=>
 ci (x.kind=5) ((BF.kr rK x.b y2.2.1 y2.2.2.1).bind fun y4=>
 ci (!(ER.end_ y4.2.1=0)) (Ao 0 y4.2.1 y4.2.2.1)<|
 (FM.k y2.1.1).bind fun y6=>
 ci (y6.1.1<1) ((Li.k 2 1 y4.2.1).bind fun y8=>
 Ao 0 y8.2.1 y4.2.2.1)<|
 ci (I (ER.mem y4.2.1).length<=y6.1.1) ((Li.k 2 1 y4.2.1).bind fun y9=>
 Ao 0 y9.2.1 y4.2.2.1)<|
 ck (0<=y6.1.1/\y6.1.1<I (ER.mem y4.2.1).length)<|
 ci (x.kind=4) (ck (y6.1.1.toNat<(ER.mem y4.2.1).length)<|
 Ao (List.getD (ER.mem y4.2.1) y6.1.1.toNat 0) y4.2.1 y4.2.2.1)<|
 ck (y6.1.1.toNat<(ER.mem y4.2.1).length)<|
 Ao y4.1.1 (ER.X7 y4.2.1 ((ER.mem y4.2.1).set y6.1.1.toNat y4.1.1)) y4.2.2.1)<|
 ci (!(ER.end_ y2.2.1=0)) (Ao 0 y2.2.1 y2.2.2.1)<|
 (FM.k y2.1.1).bind fun y5=>
 ci (y5.1.1<1) ((Li.k 2 1 y2.2.1).bind fun y7=>
 Ao 0 y7.2.1 y2.2.2.1)<|
 ci (I (ER.mem y2.2.1).length<=y5.1.1) ((Li.k 2 1 y2.2.1).bind fun y8=>
 Ao 0 y8.2.1 y2.2.2.1)<|
 ck (0<=y5.1.1/\y5.1.1<I (ER.mem y2.2.1).length)<|
 ci (x.kind=4) (ck (y5.1.1.toNat<(ER.mem y2.2.1).length)<|
 Ao (List.getD (ER.mem y2.2.1) y5.1.1.toNat 0) y2.2.1 y2.2.2.1)<|
 ck (y5.1.1.toNat<(ER.mem y2.2.1).length)<|
 Ao 0 (ER.X7 y2.2.1 ((ER.mem y2.2.1).set y5.1.1.toNat 0)) y2.2.2.1
def E8.kf (rK:Bd.T) (n:Int) (k1:ER) (k3:EF):Option ((Int×Unit)×((Unit×Unit)×ER×(Unit×Unit)×EF×Unit)):=
 (BF.kr rK n k1 k3).bind fun y2=>
 some ((y2.1.1,()),(((),()),(y2.2.1,(((),()),(y2.2.2.1,())))))
def H8.kf (rK:Bd.T) (x:Dop.AU) (k0:ER) (k1:EF):R2 Int ER EF:=
 (BF.kr rK x.a k0 k1).bind fun y2=>
 ci (x.kind=8) ((BF.kr rK x.b y2.2.1 y2.2.2.1).bind fun y4=>
 ci (!(ER.end_ y4.2.1=0)) (Ao 0 y4.2.1 y4.2.2.1)<|
 (Bi.k x.n y2.1.1 y4.1.1).bind fun y6=>
 ci (!y6.1.2.1) ((Li.k 2 2 y4.2.1).bind fun y8=>
 Ao y8.1.1 y8.2.1 y4.2.2.1)<|
 Ao y6.1.1 y4.2.1 y4.2.2.1)<|
 ci (!(ER.end_ y2.2.1=0)) (Ao 0 y2.2.1 y2.2.2.1)<|
 (Bi.k x.n y2.1.1 0).bind fun y5=>
 ci (!y5.1.2.1) ((Li.k 2 2 y2.2.1).bind fun y7=>
 Ao y7.1.1 y7.2.1 y2.2.2.1)<|
 Ao y5.1.1 y2.2.1 y2.2.2.1
abbrev PG.T:Type:=Int->ER->EF->Dop.AU->R2 Int ER EF
abbrev PH.T:Type:=Int->Bool->ER->EF->Dop.AU->R2 Int ER EF
abbrev LR.T:Type:=Int->Bool->Int->ER->EF->Dop.AU->R2 Int ER EF
abbrev LS.T:Type:=Int->ER->EF->R2 Int ER EF
abbrev LU.T:Type:=Int->Bool->ER->EF->Dop.AU->R2 Int ER EF
abbrev LV.T:Type:=Int->Bool->ER->EF->Dop.AU->R2 Int ER EF
abbrev BQ.KT:Type:=PG.T×PH.T×LR.T×LS.T×LU.T×LV.T×Unit
def PG.kB (rK:Bd.T) (tK:BQ.KT):PG.T:=fun t7 k0 k1 b2=>
 ci (!(k1.KO=0)) (tK.2.1 t7 true k0 k1 b2)<|
 tK.2.1 t7 (decide (b2.kind=33)) k0 k1 b2
def PH.kB (rK:Bd.T) (tK:BQ.KT):PH.T:=fun t7 t8 k0 k1 b2=>
 ci (b2.kind=34) (tK.2.2.1 t7 t8 b2.b k0 k1 b2)<|
 tK.2.2.1 t7 t8 b2.a k0 k1 b2
def LR.kB (rK:Bd.T) (tK:BQ.KT):LR.T:=fun t7 t8 t9 k0 k1 b2=>
 let A1:=Cj.kr rK t7 k0 k1
 let F1:Y2 Int ER EF->R2 Int ER EF:=fun y4=>
 ci (y4.1.1=1) (Ao 0 y4.2.1 y4.2.2.1)<|
 ci (y4.1.1=3) (ci (y4.1.1=3) (tK.2.2.2.1 y4.1.1 y4.2.1 y4.2.2.1)<|
 tK.2.2.2.2.1 t7 false y4.2.1 y4.2.2.1 b2)<|
 ci (y4.1.1=4) (ci (y4.1.1=4) (tK.2.2.2.1 y4.1.1 y4.2.1 y4.2.2.1)<|
 tK.2.2.2.2.1 t7 false y4.2.1 y4.2.2.1 b2)<|
 ci (y4.1.1=5) (tK.2.2.2.1 y4.1.1 y4.2.1 y4.2.2.1)<|
 tK.2.2.2.2.1 t7 false y4.2.1 y4.2.2.1 b2
 ci (!t8) (ci (0<=t9) ((BF.kr rK t9 k0 k1).bind fun y4=>
 ci (y4.1.1=0) (Ao 0 y4.2.1 y4.2.2.1)<|
 ci (!t8) (ci (t9<0) ((E6.k y4.2.1).bind fun y8=>
 ci (!y8.1.1) (Ao 5 y8.2.1 y4.2.2.1)<|
 (Cj.kr rK t7 y8.2.1 y4.2.2.1).bind F1)<|
 (Cj.kr rK t7 y4.2.1 y4.2.2.1).bind F1)<|
 (Cj.kr rK t7 y4.2.1 y4.2.2.1).bind F1)<|
 ci (!t8) (ci (t9<0) ((E6.k k0).bind fun y6=>
 ci (!y6.1.1) (Ao 5 y6.2.1 k1)<|
 (Cj.kr rK t7 y6.2.1 k1).bind F1)<|
 A1.bind F1)<|
 A1.bind F1)<|
 ci (!t8) (ci (t9<0) ((E6.k k0).bind fun y5=>
 ci (!y5.1.1) (Ao 5 y5.2.1 k1)<|
 (Cj.kr rK t7 y5.2.1 k1).bind F1)<|
 A1.bind F1)<|
 A1.bind F1
def LS.kB (rK:Bd.T) (tK:BQ.KT):LS.T:=fun t10 k0 k1=>
 Ao t10 k0 k1
def LU.kB (rK:Bd.T) (tK:BQ.KT):LU.T:=fun t7 t8 k0 k1 b2=>
 ci (b2.kind=34) (ci (0<=b2.c) ((BF.kr rK b2.c k0 k1).bind fun y4=>
 tK.2.2.2.2.2.1 t7 t8 y4.2.1 y4.2.2.1 b2)<|
 tK.2.2.2.2.2.1 t7 t8 k0 k1 b2)<|
 tK.2.2.2.2.2.1 t7 t8 k0 k1 b2
def LV.kB (rK:Bd.T) (tK:BQ.KT):LV.T:=fun t7 t8 k0 k1 b2=>
 ci (!(k0.end_=0)) (Ao 5 k0 k1)<|
 tK.2.1 t7 t8 k0 k1 b2
def BQ.kS (rK:Bd.T) (tK:BQ.KT):BQ.KT:=(PG.kB rK tK,PH.kB rK tK,LR.kB rK tK,LS.kB rK tK,LU.kB rK tK,LV.kB rK tK,())
def BQ.kL (rK:Bd.T) (n:Nat):BQ.KT:=DA (BQ.kS rK) n
def BQ.k0 (rK:Bd.T) (tK:BQ.KT) (t1:Dop.AU) (k0:ER) (k1:EF):R2 Int ER EF:=
 ci (t1.kind=34) (ci (k1.KO=0) (ci (0<=t1.a) ((BF.kr rK t1.a k0 k1).bind fun y5=>
 tK.1 t1.d y5.2.1 y5.2.2.1 t1)<|
 tK.1 t1.d k0 k1 t1)<|
 tK.1 t1.d k0 k1 t1)<|
 tK.1 t1.b k0 k1 t1
def BQ.kf (rK:Bd.T) (t1:Dop.AU) (k0:ER) (k1:EF):R2 Int ER EF:=BQ.k0 rK (BQ.kL rK 1000000) t1 k0 k1
def Gv.kf (rK:Bd.T) (x:Dop.AU) (k0:ER) (k1:EF):R2 Int ER EF:=(Ae (S:=Dop.D4) prog 187 tb (Bd.ct rK++[DF.Lv]) Gv.p).Fm 3000 1000000 Gv.p.sp (((),x,(),()),(k0,k1,()))
def Bd.kS (r:Bd.T):Bd.T:=(fun x=>m64.kf r x.1.2.1 x.1.2.2.1 x.2.1,fun x=>Cj.kf r x.1.2.1 x.2.1 x.2.2.1,fun x=>BE.kf r x.1.2.1 x.2.1 x.2.2.1,fun x=>BF.kf r x.1.2.1 x.2.1 x.2.2.1,fun x=>Fk.kf r x.1.2.1 x.2.1 x.2.2.1,fun x=>E8.kf r x.1.1 x.2.2.1 x.2.2.2.2.1,fun x=>H8.kf r x.1.2.1 x.2.1 x.2.2.1,fun x=>BQ.kf r x.1.2.1 x.2.1 x.2.2.1,fun x=>Gv.kf r x.1.2.1 x.2.1 x.2.2.1,())
def Bd.kR (n:Nat):Bd.T:=DA Bd.kS n
def m64.Kc (n:Nat):=kd 64 m64.p (Bd.kR n).1
def m64.Lv:=m64.Kc FU
def m64.k:=m64.kr (Bd.kR FU)
def Cj.Kc (n:Nat):=kd 116 Cj.p (Bd.kR n).2.1
def BE.Kc (n:Nat):=kd 154 BE.p (Bd.kR n).2.2.1
def BF.Kc (n:Nat):=kd 185 BF.p (Bd.kR n).2.2.2.1
def Fk.Kc (n:Nat):=kd 211 Fk.p (Bd.kR n).2.2.2.2.1
def E8.Kc (n:Nat):=kd 210 E8.p (Bd.kR n).2.2.2.2.2.1
def H8.Kc (n:Nat):=kd 212 H8.p (Bd.kR n).2.2.2.2.2.2.1
def BQ.Kc (n:Nat):=kd 186 BQ.p (Bd.kR n).2.2.2.2.2.2.2.1
def Gv.Kc (n:Nat):=kd 187 Gv.p (Bd.kR n).2.2.2.2.2.2.2.2.1
def Bd.RY (n:Nat):List (Bp Dop.D4):=[m64.Kc n,Cj.Kc n,BE.Kc n,BF.Kc n,Fk.Kc n,E8.Kc n,H8.Kc n,BQ.Kc n,Gv.Kc n]
theorem Bd.Ej: ∀ n,(m64.Kc n).Holds prog/\(Cj.Kc n).Holds prog/\(BE.Kc n).Holds prog/\(BF.Kc n).Holds prog/\(Fk.Kc n).Holds prog/\(E8.Kc n).Holds prog/\(H8.Kc n).Holds prog/\(BQ.Kc n).Holds prog/\(Gv.Kc n).Holds prog/\True
 | 0=>⟨AN AH m64.ok,AN AH Cj.ok,AN AH BE.ok,AN AH BF.ok,AN AH Fk.ok,AN AH E8.ok,AN AH H8.ok,AN AH BQ.ok,AN AH Gv.ok,trivial⟩
 | n+1=>by
  obtain ⟨h0,h1,h2,h3,h4,h5,h6,h7,h8,_⟩:=Bd.Ej n
  have hh: ∀ c∈Bd.RY n,c.Holds prog:=(hc h0 (hc h1 (hc h2 (hc h3 (hc h4 (hc h5 (hc h6 (hc h7 (hc h8 hn)))))))))
  exact ⟨GD AH (Ab hh (hc Li.Kh (hc E6.Kh hn))) m64.ok (fun t x=>m64.k0 (Bd.kR n) t x.1.2.1 x.1.2.2.1 x.2.1) (fun c=>(fun k0 b1 k2=>c 9 m64.q9 rfl (((),(),(),()),(k0,(b1,()),k2,())),fun k0 b1 k2=>c 100009 m64.T4 rfl (((),(),(),()),(k0,(b1,()),k2,())),())) (m64.kS (Bd.kR n)) (by kernel_rfl),
   kh AH (Ab hh (hc DF.ID (hc E6.Kh hn))) Cj.ok (by kernel_rfl),
   GD AH (Ab hh (hc DF.ID (hc DD.Kh hn))) BE.ok (fun t x=>BE.k0 (Bd.kR n) t x.1.2.1 x.2.1 x.2.2.1) (fun c=>(fun t11 k0 k1 b2=>c 18 BE.gU rfl (((),(),(),t11,()),(k0,k1,(b2,()),())),fun k0 k1 b2=>c 35 BE.kK rfl (((),(),(),()),(k0,k1,(b2,()),())),fun t11 k0 k1 b2=>c 38 BE.kM rfl (((),(),(),t11,()),(k0,k1,(b2,()),())),fun t182 t183 t184 k0 k1=>c 42 BE.kP rfl (((),(),t182,t183,t184,()),(k0,k1,())),())) (BE.kS (Bd.kR n)) (by kernel_rfl),
   GD AH (Ab hh (hc E6.Kh (hc EH.Kh (hc Jb.Kh (hc DD.Kh (hc Un.Kh hn)))))) BF.ok (fun t x=>BF.k0 (Bd.kR n) t x.1.2.1 x.2.1 x.2.2.1) (fun c=>(fun t28 k0 k1 b4=>c 15 BF.ak rfl (((),(),(),(),t28,()),(k0,k1,((),()),((),()),(b4,()),())),fun t28 k0 k1 b3=>c 23 BF.gX rfl (((),(),(),t28,()),(k0,k1,((),()),(b3,()),((),()),())),fun t10 t140 t141 t142 k0 k1 b3=>c 34 BF.kJ rfl (((),(),(),t10,t140,t141,t142,()),(k0,k1,((),()),(b3,()),((),()),())),())) (BF.kS (Bd.kR n)) (by kernel_rfl),
   kh AH (Ab hh (hc FM.Kh (hc Li.Kh hn))) Fk.ok (by kernel_rfl),
   kh AH (Ab hh hn) E8.ok (by kernel_rfl),
   kh AH (Ab hh (hc Bi.Kh (hc Li.Kh hn))) H8.ok (by kernel_rfl),
   GD AH (Ab hh (hc E6.Kh hn)) BQ.ok (fun t x=>BQ.k0 (Bd.kR n) t x.1.2.1 x.2.1 x.2.2.1) (fun c=>(fun t7 k0 k1 b2=>c 6 BQ.q6 rfl (((),(),(),t7,()),(k0,k1,(b2,()),())),fun t7 t8 k0 k1 b2=>c 7 BQ.q7 rfl (((),(),(),t7,t8,()),(k0,k1,(b2,()),())),fun t7 t8 t9 k0 k1 b2=>c 10 BQ.VH rfl (((),(),(),t7,t8,t9,()),(k0,k1,(b2,()),())),fun t10 k0 k1=>c 22 BQ.gW rfl ((t10,()),(k0,k1,())),fun t7 t8 k0 k1 b2=>c 23 BQ.gX rfl (((),(),(),t7,t8,()),(k0,k1,(b2,()),())),fun t7 t8 k0 k1 b2=>c 25 BQ.kF rfl (((),(),(),t7,t8,()),(k0,k1,(b2,()),())),())) (BQ.kS (Bd.kR n)) (by kernel_rfl),
   kh AH (Ab hh (hc DF.ID hn)) Gv.ok (by kernel_rfl),
   trivial⟩
theorem m64.ID:m64.Lv.Holds prog:=(Bd.Ej FU).1
abbrev Ti.T:Type:=List Dop.NY->Int->Int->Dop.I8->Int->Int->List Int->ER->FN Dop.RS
abbrev I4.KT:Type:=Ti.T×Unit
def Ti.kB (tK:I4.KT):Ti.T:=fun t22 t23 t24 b0 b1_0 b1_1 b1_2 k2=>
 let A1:=List.getD t22 t24.toNat Dop.d12
 ci (t24<t23) (ck (0<=t24/\t24<I t22.length)<|
 ck (0<=A1.at_/\A1.at_<I k2.mem.length)<|
 ck (A1.at_.toNat<k2.mem.length)<|
 ck (Au (t24+1))<|
 tK.1 t22 t23 (t24+1) b0 b1_0 b1_1 b1_2 ((ER.X7 k2 (k2.mem.set A1.at_.toNat A1.aR))))<|
 (Un.k b0 ([109,97,105,110]:List UInt8)).bind fun y3=>
 (m64.k y3.1.1 [] k2).bind fun y4=>
 ci (ER.end_ y4.2.1=0) ((Li.k 1 y4.1.1 y4.2.1).bind fun y6=>
 CW (Dop.RS.mk (ER.end_ y6.2.1) (ER.code y6.2.1) (ER.out y6.2.1)))<|
 CW (Dop.RS.mk (ER.end_ y4.2.1) (ER.code y4.2.1) (ER.out y4.2.1))
def I4.kS (tK:I4.KT):I4.KT:=(Ti.kB tK,())
def I4.kL (n:Nat):I4.KT:=DA I4.kS n
def I4.k0 (tK:I4.KT) (p:Dop.I8) (input:List Int) (fuel:Int):FN Dop.RS:=
 ck ((0:Int)<=4096/\(4096:Int)<=4096/\4096*(I (8:Nat)+1)<=140737488355328)<|
 tK.1 p.globals (I p.globals.length) 0 p 0 0 [] ((p,List.replicate (Int.toNat 4096) 0,p.top,input,[],if 1000000<if fuel<0 then 0 else fuel then 1000000 else if fuel<0 then 0 else fuel,0,0,(0:Int),(),()))
def I4.k (p:Dop.I8) (input:List Int) (fuel:Int):FN Dop.RS:=I4.k0 (I4.kL 1000000) p input fuel
def I4.Kc:=kd 36 I4.p fun x=>I4.k x.1.1 x.1.2.1 x.1.2.2.1
theorem I4.Kh:I4.Kc.Holds prog:=GD AH (hc Un.Kh (hc m64.ID (hc Li.Kh hn))) I4.ok (fun t x=>I4.k0 t x.1.1 x.1.2.1 x.1.2.2.1) (fun c=>(fun t22 t23 t24 b0 b1_0 b1_1 b1_2 k2=>c 3 I4.q3 rfl (((),(),(),t22,t23,t24,()),((b0,()),(b1_0,b1_1,b1_2,()),k2,())),())) I4.kS (by kernel_rfl)
def RT.k (s:List UInt8) (input:List Int) (fuel:Int):Lx Dop.RS Int:=
 (m18.k s).bind fun y2=>
 ci (!(y2.1.2.2.1=0)) (I5 (Dop.RS.mk 0 0 []) y2.1.2.2.1)<|
 (I4.k y2.1.1 input fuel).bind fun y4=>
 I5 y4.1.1 0
def RT.Kc:=kd 30 RT.p fun x=>RT.k x.1.1 x.1.2.1 x.1.2.2.1
theorem RT.Kh:RT.Kc.Holds prog:=kh AH (hc m18.Kh (hc I4.Kh hn)) RT.ok (by kernel_rfl)
def XI.k :FN Bool:=
 (RT.k ([105,110,116,32,109,97,105,110,40,41,123,112,117,116,99,40,54,53,41,59,114,101,116,117,114,110,32,55,59,125]:List UInt8) [] 100).bind fun y2=>
 ci (y2.1.2.1=0) (ci (y2.1.1.end_=1) (ci (y2.1.1.code=7) (ci (I y2.1.1.output.length=1) (ck ((0:Int)<=0/\0<I y2.1.1.output.length)<|
 CW (decide (List.getD y2.1.1.output (Int.toNat 0) (0:Int)=65)))<|
 CW false)<|
 CW false)<|
 CW false)<|
 CW false
def XI.Kc:=kd 29 XI.p fun x=>XI.k
theorem XI.Kh:XI.Kc.Holds prog:=kh AH (hc RT.Kh hn) XI.ok (by kernel_rfl)
end
end Go.Proofs.Tryz
