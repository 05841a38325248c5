/-
 Functions in plain words (what their equations say), and their contracts. Written by a program.
-/
import Derived.Test.YtkpggdcpaeanaaaGreatDoorMt
import Derived.Test.YtkpggdcpaeanaaaGreatDoorMp
set_option linter.all false
set_option maxRecDepth 100000
set_option maxHeartbeats 4000000
namespace Go.Proofs.Tryz
open Go Go.En
noncomputable section
def Xx.k (f:Dop.Eh) (b0:List UInt8):R1 Bool (List UInt8×Unit):=
 CR (decide (f.name=b0)) (b0,())
def Xx.Kc:=kd 55 Xx.p fun x=>Xx.k x.1.1 x.2.1.1
theorem Xx.Kh:Xx.Kc.Holds prog:=kh AH hn Xx.ok (by kernel_rfl)
abbrev Jl.T:Type:=List Dop.Eh->Int->Int->List UInt8->R1 Int (List UInt8×Unit)
abbrev BK.KT:Type:=Jl.T×Unit
def Jl.kB (tK:BK.KT):Jl.T:=fun s t7 t8 b0=>
 ci (t8<t7) (ck (0<=t8/\t8<I s.length)<|
 (Xx.k (List.getD s t8.toNat Dop.d11) b0).bind fun y3=>
 ci y3.1.1 (CR t8 (y3.2.1.1,()))<|
 ck (Az (t8+1))<|
 tK.1 s t7 (t8+1) y3.2.1.1)<|
 CR (-1) (b0,())
def BK.kS (tK:BK.KT):BK.KT:=(Jl.kB tK,())
def BK.kL (n:Nat):BK.KT:=Cw BK.kS n
def BK.k0 (tK:BK.KT) (s:List Dop.Eh) (b0:List UInt8):R1 Int (List UInt8×Unit):=
 tK.1 s (I s.length) 0 b0
def BK.k (s:List Dop.Eh) (b0:List UInt8):R1 Int (List UInt8×Unit):=BK.k0 (BK.kL 1000000) s b0
def BK.Kc:=kd 54 BK.p fun x=>BK.k x.1.1 x.2.1.1
theorem BK.Kh:BK.Kc.Holds prog:=F4 AH (hc Xx.Kh hn) BK.ok (fun t x=>BK.k0 t x.1.1 x.2.1.1) (fun c=>(fun s t7 t8 b0=>c 2 BK.q2 rfl ((s,(),t7,t8,()),((b0,()),())),())) BK.kS (by kernel_rfl)
def S3.k (p:Dop.IF) (name:List UInt8):Ei Int:=
 (BK.k p.funcs name).bind mE
def S3.Kc:=kd 25 S3.p fun x=>S3.k x.1.1 x.1.2.1
theorem S3.Kh:S3.Kc.Holds prog:=kh AH (hc BK.Kh hn) S3.ok (by kernel_rfl)
def Mz.k (end_ code:Int) (k0:ER):R1 Int ER:=
 ci (k0.end_=0) (CR 0 (ER.eQ (ER.eS k0 end_) code))<|
 CR 0 k0
def Mz.Kc:=kd 65 Mz.p fun x=>Mz.k x.1.2.1 x.1.2.2.1 x.2.1
theorem Mz.Kh:Mz.Kc.Holds prog:=kh AH hn Mz.ok (by kernel_rfl)
def Mr.k (p:Dop.IF) (n:Int):Ei Dop.AU:=
 let A1:=CO (Dop.AU.mk 0 (-1) (-1) (-1) (-1) [] 0 0 0)
 ci (n<0) A1<|
 ci (I p.nodes.length<=n) A1<|
 ck (0<=n/\n<I p.nodes.length)<|
 CO (List.getD p.nodes n.toNat Dop.d5)
def Mr.Kc:=kd 152 Mr.p fun x=>Mr.k x.1.1 x.1.2.1
theorem Mr.Kh:Mr.Kc.Holds prog:=kh AH hn Mr.ok (by kernel_rfl)
abbrev PR.T:Type:=Int->List Int->Int->Int->Dop.IF->Ei (List Int)
abbrev DK.KT:Type:=PR.T×Unit
def PR.kB (tK:DK.KT):PR.T:=fun n out t9 t10 b0=>
 ci (t10<t9) ((Mr.k b0 n).bind fun y3=>
 ci (!(y3.1.1.kind=20)) (CO out)<|
 ck (Cu none (room 8 (out.length+(y3.1.1.a::[]).length)))<|
 ck (Az (t10+1))<|
 tK.1 y3.1.1.b (out++y3.1.1.a::[]) t9 (t10+1) b0)<|
 CO out
def DK.kS (tK:DK.KT):DK.KT:=(PR.kB tK,())
def DK.kL (n:Nat):DK.KT:=Cw DK.kS n
def DK.k0 (tK:DK.KT) (p:Dop.IF) (n:Int):Ei (List Int):=
 tK.1 n [] (I p.nodes.length) 0 p
def DK.k (p:Dop.IF) (n:Int):Ei (List Int):=DK.k0 (DK.kL 1000000) p n
def DK.Kc:=kd 114 DK.p fun x=>DK.k x.1.1 x.1.2.1
theorem DK.Kh:DK.Kc.Holds prog:=F4 AH (hc Mr.Kh hn) DK.ok (fun t x=>DK.k0 t x.1.1 x.1.2.1) (fun c=>(fun n out t9 t10 b0=>c 3 DK.q3 rfl ((n,(),out,t9,t10,()),((b0,()),())),())) DK.kS (by kernel_rfl)
abbrev DM.kr (r:EN.T) (t1:Int) (k0:ER) (k1:EF):R2 Bool ER EF:=r.1 (((),t1,(),()),(k0,k1,()))
def DM.kf (rK:EN.T) (t1:Int) (k0:ER) (k1:EF):R2 Bool ER EF:=(Ac (S:=Dop.D4) prog 153 tb (EN.ct rK++[DK.Kc]) DM.p).Ez 3000 1000000 DM.p.sp (((),t1,(),()),(k0,k1,()))
def Bk.kf (rK:EN.T) (s:List Int) (k1:ER) (k3:EF):Option ((Bool×Unit)×((Unit×Unit)×ER×(Unit×Unit)×EF×Unit)):=(Ac (S:=Dop.D4) prog 183 tb (EN.ct rK++[]) Bk.p).Ez 3000 1000000 Bk.p.sp ((s,(),()),(((),()),k1,((),()),k3,()))
def BO.kf (rK:EN.T) (s:List Int) (k1:ER) (k3:EF):Option ((Int×Unit)×((Unit×Unit)×ER×(Unit×Unit)×EF×Unit)):=(Ac (S:=Dop.D4) prog 209 tb (EN.ct rK++[]) BO.p).Ez 3000 1000000 BO.p.sp ((s,(),()),(((),()),k1,((),()),k3,()))
def IH.kf (rK:EN.T) (s:Int) (k1:ER) (k3:EF):Option ((Bool×Unit)×((Unit×Unit)×ER×(Unit×Unit)×EF×Unit)):=(Ac (S:=Dop.D4) prog 184 tb (EN.ct rK++[]) IH.p).Ez 3000 1000000 IH.p.sp ((s,(),(),()),(((),()),k1,((),()),k3,()))
def EN.kS (r:EN.T):EN.T:=(fun x=>DM.kf r x.1.2.1 x.2.1 x.2.2.1,fun x=>Bk.kf r x.1.1 x.2.2.1 x.2.2.2.2.1,fun x=>BO.kf r x.1.1 x.2.2.1 x.2.2.2.2.1,fun x=>IH.kf r x.1.1 x.2.2.1 x.2.2.2.2.1,())
def EN.kR (n:Nat):EN.T:=Cw EN.kS n
def DM.Kc (n:Nat):=kd 153 DM.p (EN.kR n).1
def DM.Nn:=DM.Kc FU
def DM.k:=DM.kr (EN.kR FU)
def Bk.Kc (n:Nat):=kd 183 Bk.p (EN.kR n).2.1
def BO.Kc (n:Nat):=kd 209 BO.p (EN.kR n).2.2.1
def IH.Kc (n:Nat):=kd 184 IH.p (EN.kR n).2.2.2.1
def EN.Ry (n:Nat):List (Bw Dop.D4):=[DM.Kc n,Bk.Kc n,BO.Kc n,IH.Kc n]
theorem EN.Et: ∀ n,(DM.Kc n).Holds prog/\(Bk.Kc n).Holds prog/\(BO.Kc n).Holds prog/\(IH.Kc n).Holds prog/\True
 | 0=>⟨AO AH DM.ok,AO AH Bk.ok,AO AH BO.ok,AO AH IH.ok,trivial⟩
 | n+1=>by
  obtain ⟨h0,h1,h2,h3,_⟩:=EN.Et n
  have hh: ∀ c∈EN.Ry n,c.Holds prog:=(hc h0 (hc h1 (hc h2 (hc h3 hn))))
  exact ⟨kh AH (Ab hh (hc DK.Kh hn)) DM.ok (by kernel_rfl),
   kh AH (Ab hh hn) Bk.ok (by kernel_rfl),
   kh AH (Ab hh hn) BO.ok (by kernel_rfl),
   kh AH (Ab hh hn) IH.ok (by kernel_rfl),
   trivial⟩
theorem DM.IN:DM.Nn.Holds prog:=(EN.Et FU).1
def FK.k (k0:ER):R1 Bool ER:=
 ci (!(k0.end_=0)) (CR false k0)<|
 ci (k0.fuel=0) ((Mz.k 4 0 k0).bind fun y4=>
 CR false y4.2.1)<|
 ck (Az (k0.fuel -1))<|
 CR true (ER.eU k0 (k0.fuel -1))
def FK.Kc:=kd 117 FK.p fun x=>FK.k x.2.1
theorem FK.Kh:FK.Kc.Holds prog:=kh AH (hc Mz.Kh hn) FK.ok (by kernel_rfl)
def Ey.k (n:Int):Ei Int:=
 ck (Az (IntKind.u32.wrap n))<|
 CO (IntKind.u32.wrap n)
def Ey.Kc:=kd 255 Ey.p fun x=>Ey.k x.1.1
theorem Ey.Kh:Ey.Kc.Holds prog:=kh AH hn Ey.ok (by kernel_rfl)
def Dg.k (n:Int):LH Int Bool:=
 (EC.k n).bind fun y2=>
 GP y2.1.1 true
def Dg.Kc:=kd 256 Dg.p fun x=>Dg.k x.1.1
theorem Dg.Kh:Dg.Kc.Holds prog:=kh AH (hc EC.Kh hn) Dg.ok (by kernel_rfl)
abbrev Pe.T:Type:=OA Int Int Bool
abbrev DY.KT:Type:=Pe.T×Unit
def Pe.kB (tK:DY.KT):Pe.T:=
 Js 0 0 false
def DY.kS (tK:DY.KT):DY.KT:=(Pe.kB tK,())
def DY.kL (n:Nat):DY.KT:=Cw DY.kS n
def DY.k0 (tK:DY.KT) (a b:Int):OA Int Int Bool:=
 ci (b=0) (tK.1)<|
 ck (b≠0/\Az (a.tdiv b)=true)<|
 ck (b≠0)<|
 Js (a.tdiv b) (a.tmod b) true
def DY.k (a b:Int):OA Int Int Bool:=DY.k0 (DY.kL 1000000) a b
def DY.Kc:=kd 257 DY.p fun x=>DY.k x.1.1 x.1.2.1
theorem DY.Kh:DY.Kc.Holds prog:=F4 AH hn DY.ok (fun t x=>DY.k0 t x.1.1 x.1.2.1) (fun c=>(c 3 DY.q3 rfl ((),()),())) DY.kS (by kernel_rfl)
def Hg.k (is:Bool):Ei Int:=
 ci is (CO 1)<|
 CO 0
def Hg.Kc:=kd 258 Hg.p fun x=>Hg.k x.1.1
theorem Hg.Kh:Hg.Kc.Holds prog:=kh AH hn Hg.ok (by kernel_rfl)
abbrev Ls.T:Type:=Int->Int->Int->LH Int Bool
abbrev Lu.T:Type:=Int->Int->Int->Int->LH Int Bool
abbrev Lt.T:Type:=Int->Bool->LH Int Bool
abbrev Lv.T:Type:=Int->Int->Int->LH Int Bool
abbrev Lx.T:Type:=Int->Int->Int->LH Int Bool
abbrev Lw.T:Type:=Int->Bool->LH Int Bool
abbrev BJ.KT:Type:=Ls.T×Lu.T×Lt.T×Lv.T×Lx.T×Lw.T×Unit
def Ls.kB (tK:BJ.KT):Ls.T:=fun o t1 t2=>
 (DY.k t1 t2).bind fun y2=>
 ci (o=5) (tK.2.2.1 y2.1.2.1 y2.1.2.2.1)<|
 tK.2.2.1 y2.1.1 y2.1.2.2.1
def Lu.kB (tK:BJ.KT):Lu.T:=fun o t1 t2 t19=>
 ci (t19=6) (ci (t19=6) (tK.2.2.2.1 o t1 t2)<|
 tK.2.2.2.2.1 t1 t2 t19)<|
 ci (t19=7) (tK.2.2.2.1 o t1 t2)<|
 tK.2.2.2.2.1 t1 t2 t19
def Lt.kB (tK:BJ.KT):Lt.T:=fun t9 t11=>
 (EC.k t9).bind fun y2=>
 GP y2.1.1 t11
def Lv.kB (tK:BJ.KT):Lv.T:=fun o t1 t2=>
 (Ey.k t1).bind fun y2=>
 (Ey.k t2).bind fun y3=>
 (DY.k y2.1.1 y3.1.1).bind fun y4=>
 ci (o=7) (tK.2.2.2.2.2.1 y4.1.2.1 y4.1.2.2.1)<|
 tK.2.2.2.2.2.1 y4.1.1 y4.1.2.2.1
def Lx.kB (tK:BJ.KT):Lx.T:=fun t1 t2 t19=>
 let A1:=bits BinOp.and IntKind.i64 t2 31
 ci (t19=8) ((Dg.k (bits BinOp.and IntKind.i64 t1 t2)).bind L0)<|
 ci (t19=9) ((Dg.k (bits BinOp.or IntKind.i64 t1 t2)).bind L0)<|
 ci (t19=10) ((Dg.k (bits BinOp.xor IntKind.i64 t1 t2)).bind L0)<|
 ci (t19=11) (ck (0<=bits BinOp.and IntKind.i64 t2 31/\bits BinOp.and IntKind.i64 t2 31<=I IntKind.i64.bits)<|
 (Dg.k (IntKind.i64.wrap (t1*2 ^ A1.toNat))).bind L0)<|
 ci (t19=12) (ck (0<=bits BinOp.and IntKind.i64 t2 31/\bits BinOp.and IntKind.i64 t2 31<=I IntKind.i64.bits)<|
 (Dg.k (t1 / 2 ^ A1.toNat)).bind L0)<|
 ci (t19=13) ((Ey.k t1).bind fun y8=>
 ck (0<=bits BinOp.and IntKind.i64 t2 31/\bits BinOp.and IntKind.i64 t2 31<=I IntKind.i64.bits)<|
 (Dg.k (y8.1.1 / 2 ^ A1.toNat)).bind L0)<|
 ci (t19=14) ((Hg.k (decide (t1=t2))).bind fun y9=>
 (Dg.k y9.1.1).bind L0)<|
 ci (t19=15) ((Hg.k (!decide (t1=t2))).bind fun y10=>
 (Dg.k y10.1.1).bind L0)<|
 ci (t19=16) ((Hg.k (decide (t1<t2))).bind fun y11=>
 (Dg.k y11.1.1).bind L0)<|
 ci (t19=17) ((Hg.k (decide (t1<=t2))).bind fun y12=>
 (Dg.k y12.1.1).bind L0)<|
 ci (t19=18) ((Ey.k t1).bind fun y13=>
 (Ey.k t2).bind fun y14=>
 (Hg.k (decide (y13.1.1<y14.1.1))).bind fun y15=>
 (Dg.k y15.1.1).bind L0)<|
 ci (t19=19) ((Ey.k t1).bind fun y14=>
 (Ey.k t2).bind fun y15=>
 (Hg.k (decide (y14.1.1<=y15.1.1))).bind fun y16=>
 (Dg.k y16.1.1).bind L0)<|
 ci (t19=20) (ck (Az (-t1))<|
 (Dg.k (-t1)).bind L0)<|
 ci (t19=21) ((Dg.k (bits BinOp.xor IntKind.i64 (-1) t1)).bind L0)<|
 ci (t19=22) ((Dg.k (bits BinOp.and IntKind.i64 t1 255)).bind L0)<|
 ci (t19=23) ((Hg.k (decide (t1=0))).bind fun y18=>
 (Dg.k y18.1.1).bind L0)<|
 GP 0 false
def Lw.kB (tK:BJ.KT):Lw.T:=fun t12 t14=>
 (EC.k t12).bind fun y2=>
 GP y2.1.1 t14
def BJ.kS (tK:BJ.KT):BJ.KT:=(Ls.kB tK,Lu.kB tK,Lt.kB tK,Lv.kB tK,Lx.kB tK,Lw.kB tK,())
def BJ.kL (n:Nat):BJ.KT:=Cw BJ.kS n
def BJ.k0 (tK:BJ.KT) (o t1 t2:Int):LH Int Bool:=
 (EC.k t1).bind fun y2=>
 (EC.k t2).bind fun y3=>
 ci (o=1) (ck (Az (y2.1.1+y3.1.1))<|
 (Dg.k (y2.1.1+y3.1.1)).bind L0)<|
 ci (o=2) (ck (Az (y2.1.1 -y3.1.1))<|
 (Dg.k (y2.1.1 -y3.1.1)).bind L0)<|
 ci (o=3) (ck (Az (y2.1.1*y3.1.1))<|
 (Dg.k (y2.1.1*y3.1.1)).bind L0)<|
 ci (o=4) (ci (o=4) (tK.1 o y2.1.1 y3.1.1)<|
 tK.2.1 o y2.1.1 y3.1.1 o)<|
 ci (o=5) (tK.1 o y2.1.1 y3.1.1)<|
 tK.2.1 o y2.1.1 y3.1.1 o
def BJ.k (o t1 t2:Int):LH Int Bool:=BJ.k0 (BJ.kL 1000000) o t1 t2
def BJ.Kc:=kd 236 BJ.p fun x=>BJ.k x.1.1 x.1.2.1 x.1.2.2.1
theorem BJ.Kh:BJ.Kc.Holds prog:=F4 AH (hc EC.Kh (hc Dg.Kh (hc DY.Kh (hc Ey.Kh (hc Hg.Kh hn))))) BJ.ok (fun t x=>BJ.k0 t x.1.1 x.1.2.1 x.1.2.2.1) (fun c=>(fun o t1 t2=>c 12 BJ.mG rfl ((o,t1,t2,()),()),fun o t1 t2 t19=>c 16 BJ.bg rfl ((o,t1,t2,(),t19,()),()),fun t9 t11=>c 15 BJ.bf rfl ((t9,t11,()),()),fun o t1 t2=>c 18 BJ.jE rfl ((o,t1,t2,()),()),fun t1 t2 t19=>c 22 BJ.jG rfl ((t1,t2,(),t19,()),()),fun t12 t14=>c 21 BJ.jF rfl ((t12,t14,()),()),())) BJ.kS (by kernel_rfl)
def Jg.k (is:Bool):Ei Int:=
 ci is (CO 1)<|
 CO 0
def Jg.Kc:=kd 213 Jg.p fun x=>Jg.k x.1.1
theorem Jg.Kh:Jg.Kc.Holds prog:=kh AH hn Jg.ok (by kernel_rfl)
abbrev Kw.T:Type:=List Int->List Int->Int->Int->Ei Bool
abbrev IU.KT:Type:=Kw.T×Unit
def Kw.kB (tK:IU.KT):Kw.T:=fun s1 s2 t12 t13=>
 ci (t13<t12) (ck (0<=t13/\t13<I s1.length)<|
 ck (0<=t13/\t13<I s2.length)<|
 ci (!(List.getD s1 t13.toNat 0=List.getD s2 t13.toNat 0)) (CO false)<|
 ck (Az (t13+1))<|
 tK.1 s1 s2 t12 (t13+1))<|
 CO true
def IU.kS (tK:IU.KT):IU.KT:=(Kw.kB tK,())
def IU.kL (n:Nat):IU.KT:=Cw IU.kS n
def IU.k0 (tK:IU.KT) (s1 s2:List Int):Ei Bool:=
 ci (!(I s1.length=I s2.length)) (CO false)<|
 tK.1 s1 s2 (I s1.length) 0
def IU.k (s1 s2:List Int):Ei Bool:=IU.k0 (IU.kL 1000000) s1 s2
def IU.Kc:=kd 63 IU.p fun x=>IU.k x.1.1 x.1.2.1
theorem IU.Kh:IU.Kc.Holds prog:=F4 AH hn IU.ok (fun t x=>IU.k0 t x.1.1 x.1.2.1) (fun c=>(fun s1 s2 t12 t13=>c 4 IU.q4 rfl ((s1,s2,t12,t13,()),()),())) IU.kS (by kernel_rfl)
def Ru.k (a b:Dop.QE):Ei Bool:=
 ci (a.end_=b.end_) (ci (a.code=b.code) ((IU.k a.output b.output).bind mE)<|
 CO false)<|
 CO false
def Ru.Kc:=kd 34 Ru.p fun x=>Ru.k x.1.1 x.1.2.1
theorem Ru.Kh:Ru.Kc.Holds prog:=kh AH (hc IU.Kh hn) Ru.ok (by kernel_rfl)
abbrev m64.kr (r:Bd.T) (t1:Int) (t2:List Int) (k0:ER):R1 Int ER:=r.1 (((),t1,t2,()),(k0,()))
abbrev Cn.kr (r:Bd.T) (n:Int) (k0:ER) (k1:EF):R2 Int ER EF:=r.2.1 (((),n,(),()),(k0,k1,()))
abbrev BH.kr (r:Bd.T) (t1:Dop.AU) (k0:ER) (k1:EF):R2 Int ER EF:=r.2.2.1 (((),t1,(),()),(k0,k1,()))
abbrev BD.kr (r:Bd.T) (t1:Int) (k0:ER) (k1:EF):R2 Int ER EF:=r.2.2.2.1 (((),t1,(),()),(k0,k1,()))
abbrev II.kr (r:Bd.T) (x:Dop.AU) (k0:ER) (k1:EF):R2 Int ER EF:=r.2.2.2.2.1 (((),x,(),()),(k0,k1,()))
abbrev ES.kr (r:Bd.T) (n:Int) (k1:ER) (k3:EF):Option ((Int×Unit)×((Unit×Unit)×ER×(Unit×Unit)×EF×Unit)):=r.2.2.2.2.2.1 ((n,(),(),()),(((),()),k1,((),()),k3,()))
abbrev Fz.kr (r:Bd.T) (x:Dop.AU) (k0:ER) (k1:EF):R2 Int ER EF:=r.2.2.2.2.2.2.1 (((),x,(),()),(k0,k1,()))
abbrev BW.kr (r:Bd.T) (t1:Dop.AU) (k0:ER) (k1:EF):R2 Int ER EF:=r.2.2.2.2.2.2.2.1 (((),t1,(),()),(k0,k1,()))
abbrev HC.kr (r:Bd.T) (x:Dop.AU) (k0:ER) (k1:EF):R2 Int ER EF:=r.2.2.2.2.2.2.2.2.1 (((),x,(),()),(k0,k1,()))
abbrev Kx.T:Type:=ER->Dop.Eh->EF->R1 Int ER
abbrev Gs.T:Type:=ER->Dop.Eh->EF->R1 Int ER
abbrev m64.KT:Type:=Kx.T×Gs.T×Unit
def Kx.kB (rK:Bd.T) (tK:m64.KT):Kx.T:=fun k0 b1 k2=>
 (Cn.kr rK b1.body k0 k2).bind fun y2=>
 ci (y2.1.1=4) ((FK.k y2.2.1).bind fun y4=>
 ci y4.1.1 (tK.2.1 y4.2.1 b1 ((EF.P4 y2.2.2.1 1)))<|
 ck (Az (ER.sp y4.2.1 -b1.frame))<|
 CR (EF.told y2.2.2.1) (ER.Yn y4.2.1 (ER.sp y4.2.1 -b1.frame)))<|
 ck (Az (ER.sp y2.2.1 -b1.frame))<|
 CR (EF.told y2.2.2.1) (ER.Yn y2.2.1 (ER.sp y2.2.1 -b1.frame))
def Gs.kB (rK:Bd.T) (tK:m64.KT):Gs.T:=fun k0 b1 k2=>
 (Cn.kr rK b1.body k0 k2).bind fun y2=>
 ci (y2.1.1=4) ((FK.k y2.2.1).bind fun y4=>
 ci y4.1.1 (tK.2.1 y4.2.1 b1 ((EF.P4 y2.2.2.1 1)))<|
 ck (Az (ER.sp y4.2.1 -b1.frame))<|
 CR (EF.told y2.2.2.1) (ER.Yn y4.2.1 (ER.sp y4.2.1 -b1.frame)))<|
 ck (Az (ER.sp y2.2.1 -b1.frame))<|
 CR (EF.told y2.2.2.1) (ER.Yn y2.2.1 (ER.sp y2.2.1 -b1.frame))
def m64.kS (rK:Bd.T) (tK:m64.KT):m64.KT:=(Kx.kB rK tK,Gs.kB rK tK,())
def m64.kL (rK:Bd.T) (n:Nat):m64.KT:=Cw (m64.kS rK) n
def m64.k0 (rK:Bd.T) (tK:m64.KT) (t1:Int) (t2:List Int) (k0:ER):R1 Int ER:=
 let A1:=List.getD k0.p.funcs t1.toNat Dop.d11
 let A3:=Az (k0.sp+A1.frame)
 let A2:=List.replicate A1.An.toNat (0:Int)
 ci (!(k0.end_=0)) (CR 0 k0)<|
 ci (t1<0) (CR 0 k0)<|
 ck (0<=t1/\t1<I k0.p.funcs.length)<|
 ck A3<|
 ci (I k0.mem.length<k0.sp+A1.frame) ((Mz.k 3 0 k0).bind Gx)<|
 ck (0<=A1.An/\A1.An<=A1.An/\A1.An*(I (8:Nat)+1)<=140737488355328)<|
 ck A3<|
 tK.1 ((ER.Yn k0 (k0.sp+A1.frame))) A1 ((List.getD k0.p.funcs t1.toNat Dop.d11,List.take A2.length t2++List.drop t2.length A2,k0.sp,0,[],0,0,()))
def m64.kf (rK:Bd.T) (t1:Int) (t2:List Int) (k0:ER):R1 Int ER:=m64.k0 rK (m64.kL rK 1000000) t1 t2 k0
def Cn.kf (rK:Bd.T) (n:Int) (k0:ER) (k1:EF):R2 Int ER EF:=
 ci (!(k1.KX=0)) ((DM.k n k0 k1).bind fun y3=>
 ci (!y3.1.1) (Ah 0 y3.2.1 y3.2.2.1)<|
 ci (EF.KX y3.2.2.1=0) ((FK.k y3.2.1).bind fun y6=>
 ci (!y6.1.1) (Ah 5 y6.2.1 y3.2.2.1)<|
 ck (0<=n/\n<I (ER.p y6.2.1).nodes.length)<|
 (BH.kr rK (List.getD (ER.p y6.2.1).nodes n.toNat Dop.d5) y6.2.1 y3.2.2.1).bind fun y8=>
 ci (!(ER.end_ y8.2.1=0)) (Ah 5 y8.2.1 y8.2.2.1)<|
 Ah y8.1.1 y8.2.1 y8.2.2.1)<|
 ck (0<=n/\n<I (ER.p y3.2.1).nodes.length)<|
 (BH.kr rK (List.getD (ER.p y3.2.1).nodes n.toNat Dop.d5) y3.2.1 y3.2.2.1).bind fun y6=>
 ci (!(ER.end_ y6.2.1=0)) (Ah 5 y6.2.1 y6.2.2.1)<|
 Ah y6.1.1 y6.2.1 y6.2.2.1)<|
 ci (k1.KX=0) ((FK.k k0).bind fun y4=>
 ci (!y4.1.1) (Ah 5 y4.2.1 k1)<|
 ck (0<=n/\n<I (ER.p y4.2.1).nodes.length)<|
 (BH.kr rK (List.getD (ER.p y4.2.1).nodes n.toNat Dop.d5) y4.2.1 k1).bind fun y6=>
 ci (!(ER.end_ y6.2.1=0)) (Ah 5 y6.2.1 y6.2.2.1)<|
 Ah y6.1.1 y6.2.1 y6.2.2.1)<|
 ck (0<=n/\n<I k0.p.nodes.length)<|
 (BH.kr rK (List.getD k0.p.nodes n.toNat Dop.d5) k0 k1).bind fun y4=>
 ci (!(ER.end_ y4.2.1=0)) (Ah 5 y4.2.1 y4.2.2.1)<|
 Ah y4.1.1 y4.2.1 y4.2.2.1
abbrev Gn.T:Type:=Int->ER->EF->Dop.AU->R2 Int ER EF
abbrev LZ.T:Type:=ER->EF->Dop.AU->R2 Int ER EF
abbrev IA.T:Type:=Int->ER->EF->Dop.AU->R2 Int ER EF
abbrev Fh.T:Type:=List Int->Int->Int->ER->EF->R2 Int ER EF
abbrev BH.KT:Type:=Gn.T×LZ.T×IA.T×Fh.T×Unit
def Gn.kB (rK:Bd.T) (tK:BH.KT):Gn.T:=fun t11 k0 k1 b2=>
 let A1:=Cn.kr rK b2.a k0 k1
 ci (t11=35) (Ah 1 k0 k1)<|
 ci (t11=36) (Ah 2 k0 k1)<|
 ci (t11=37) (ci (0<=b2.a) ((BD.kr rK b2.a k0 k1).bind fun y6=>
 Ah 3 y6.2.1 (EF.Yo y6.2.2.1 y6.1.1))<|
 Ah 3 k0 k1)<|
 ci (t11=38) (Ah 4 k0 (EF.jQ k1 b2.text))<|
 ci (t11=39) (ci (k1.KX=1) (ci (k1.mw=b2.text) ((Cn.kr rK b2.a k0 ((EF.P4 k1 0))).bind Bp)<|
 A1.bind Bp)<|
 A1.bind Bp)<|
 ci (t11=41) (ci (t11=41) (tK.2.1 k0 k1 b2)<|
 tK.2.2.1 t11 k0 k1 b2)<|
 ci (t11=42) (tK.2.1 k0 k1 b2)<|
 tK.2.2.1 t11 k0 k1 b2
def LZ.kB (rK:Bd.T) (tK:BH.KT):LZ.T:=fun k0 k1 b2=>
 let A2:=Cn.kr rK b2.a k0 k1
 let A1:=(Cn.kr rK b2.a k0 ((EF.P4 k1 0))).bind Bp
 ci (k1.KX=2) (ci (b2.kind=41) (ci (b2.n=k1.key) A1<|
 ci (k1.KX=3) (ci (b2.kind=42) A1<|
 A2.bind Bp)<|
 A2.bind Bp)<|
 ci (k1.KX=3) (ci (b2.kind=42) A1<|
 A2.bind Bp)<|
 A2.bind Bp)<|
 ci (k1.KX=3) (ci (b2.kind=42) A1<|
 A2.bind Bp)<|
 A2.bind Bp
def IA.kB (rK:Bd.T) (tK:BH.KT):IA.T:=fun t11 k0 k1 b2=>
 ci (t11=40) ((HC.kr rK b2 k0 k1).bind Bp)<|
 ci (t11=43) ((DK.k k0.p b2.a).bind fun y4=>
 tK.2.2.2.1 y4.1.1 (I y4.1.1.length) 0 k0 k1)<|
 Ah 0 k0 k1
def Fh.kB (rK:Bd.T) (tK:BH.KT):Fh.T:=fun t182 t183 t184 k0 k1=>
 ci (t184<t183) (ck (0<=t184/\t184<I t182.length)<|
 ck (t184.toNat<t182.length)<|
 (Cn.kr rK (List.getD t182 t184.toNat 0) k0 k1).bind fun y3=>
 ci (!(y3.1.1=0)) (Ah y3.1.1 y3.2.1 y3.2.2.1)<|
 ck (Az (t184+1))<|
 tK.2.2.2.1 t182 t183 (t184+1) y3.2.1 y3.2.2.1)<|
 Ah 0 k0 k1
def BH.kS (rK:Bd.T) (tK:BH.KT):BH.KT:=(Gn.kB rK tK,LZ.kB rK tK,IA.kB rK tK,Fh.kB rK tK,())
def BH.kL (rK:Bd.T) (n:Nat):BH.KT:=Cw (BH.kS rK) n
def BH.k0 (rK:Bd.T) (tK:BH.KT) (t1:Dop.AU) (k0:ER) (k1:EF):R2 Int ER EF:=
 let A2:=BD.kr rK t1.a k0 k1
 let A1:=(BW.kr rK t1 k0 k1).bind Bp
 ci (t1.kind=30) (ci (0<=t1.a) (A2.bind fun y4=>
 Ah 0 y4.2.1 y4.2.2.1)<|
 Ah 0 k0 k1)<|
 ci (t1.kind=31) (ci (!(k1.KX=0)) ((DM.k t1.b k0 k1).bind fun y5=>
 ci y5.1.1 ((Cn.kr rK t1.b y5.2.1 y5.2.2.1).bind Bp)<|
 (Cn.kr rK t1.c y5.2.1 y5.2.2.1).bind Bp)<|
 A2.bind fun y5=>
 ci (!(y5.1.1=0)) ((Cn.kr rK t1.b y5.2.1 y5.2.2.1).bind Bp)<|
 ci (0<=t1.c) (ci (ER.end_ y5.2.1=0) ((Cn.kr rK t1.c y5.2.1 y5.2.2.1).bind Bp)<|
 Ah 0 y5.2.1 y5.2.2.1)<|
 Ah 0 y5.2.1 y5.2.2.1)<|
 ci (t1.kind=32) (ci (t1.kind=32) A1<|
 tK.1 t1.kind k0 k1 t1)<|
 ci (t1.kind=33) (ci (t1.kind=33) A1<|
 tK.1 t1.kind k0 k1 t1)<|
 ci (t1.kind=34) A1<|
 tK.1 t1.kind k0 k1 t1
def BH.kf (rK:Bd.T) (t1:Dop.AU) (k0:ER) (k1:EF):R2 Int ER EF:=BH.k0 rK (BH.kL rK 1000000) t1 k0 k1
abbrev Ex.T:Type:=Int->ER->EF->Dop.AU->R2 Int ER EF
abbrev Ld.T:Type:=Int->ER->EF->Dop.AU->R2 Int ER EF
abbrev Lf.T:Type:=List Int->List Int->Int->Int->ER->EF->Dop.AU->R2 Int ER EF
abbrev BD.KT:Type:=Ex.T×Ld.T×Lf.T×Unit
def Ex.kB (rK:Bd.T) (tK:BD.KT):Ex.T:=fun t28 k0 k1 b4=>
 let A1:=(Fz.kr rK b4 k0 k1).bind Bp
 ci (t28=6) ((ES.kr rK b4.a k0 k1).bind fun y3=>
 ci (ER.end_ y3.2.2.1=0) (ck (0<=b4.n/\b4.n<I (EF.An y3.2.2.2.2.1).length)<|
 ck (b4.n.toNat<(EF.An y3.2.2.2.2.1).length)<|
 Ah y3.1.1 y3.2.2.1 (EF.Ym y3.2.2.2.2.1 ((EF.An y3.2.2.2.2.1).set b4.n.toNat y3.1.1)))<|
 Ah y3.1.1 y3.2.2.1 y3.2.2.2.2.1)<|
 ci (t28=7) (ci (t28=7) A1<|
 tK.2.1 t28 k0 k1 b4)<|
 ci (t28=8) A1<|
 tK.2.1 t28 k0 k1 b4
def Ld.kB (rK:Bd.T) (tK:BD.KT):Ld.T:=fun t28 k0 k1 b3=>
 let A2:=List.getD k0.input (Int.toNat 0) 0
 let A1:=ES.kr rK b3.a k0 k1
 ci (t28=9) (A1.bind fun y3=>
 ci (!(y3.1.1=0)) ((ES.kr rK b3.b y3.2.2.1 y3.2.2.2.2.1).bind fun y5=>
 Ah y5.1.1 y5.2.2.1 y5.2.2.2.2.1)<|
 (ES.kr rK b3.c y3.2.2.1 y3.2.2.2.2.1).bind fun y5=>
 Ah y5.1.1 y5.2.2.1 y5.2.2.2.2.1)<|
 ci (t28=10) (A1.bind fun y4=>
 ci (!(y4.1.1=0)) ((ES.kr rK b3.b y4.2.2.1 y4.2.2.2.2.1).bind fun y6=>
 (Jg.k (!decide (y6.1.1=0))).bind fun y7=>
 Ah y7.1.1 y6.2.2.1 y6.2.2.2.2.1)<|
 (Jg.k false).bind fun y6=>
 Ah y6.1.1 y4.2.2.1 y4.2.2.2.2.1)<|
 ci (t28=11) (A1.bind fun y5=>
 ci (!(y5.1.1=0)) ((Jg.k true).bind fun y7=>
 Ah y7.1.1 y5.2.2.1 y5.2.2.2.2.1)<|
 (ES.kr rK b3.b y5.2.2.1 y5.2.2.2.2.1).bind fun y7=>
 (Jg.k (!decide (y7.1.1=0))).bind fun y8=>
 Ah y8.1.1 y7.2.2.1 y7.2.2.2.2.1)<|
 ci (t28=12) ((DK.k k0.p b3.a).bind fun y6=>
 tK.2.2.1 [] y6.1.1 (I y6.1.1.length) 0 k0 k1 b3)<|
 ci (t28=13) (ci (I k0.input.length=0) (Ah (-1) k0 k1)<|
 ck ((0:Int)<=0/\0<I k0.input.length)<|
 ck ((0:Int)<=1/\1<=I k0.input.length/\I k0.input.length<=I k0.input.length)<|
 ck (Az A2)<|
 Ah A2 (ER.af k0 (List.drop (Int.toNat 1) (List.take (I k0.input.length).toNat k0.input))) k1)<|
 ci (t28=14) (A1.bind fun y8=>
 ci (ER.end_ y8.2.2.1=0) (ck (Cu none (room 1 ((ER.out y8.2.2.1).length+(IntKind.u8.wrap (bits BinOp.and IntKind.i64 y8.1.1 255)::[]).length)))<|
 Ah (bits BinOp.and IntKind.i64 y8.1.1 255) (ER.jP y8.2.2.1 (ER.out y8.2.2.1++IntKind.u8.wrap (bits BinOp.and IntKind.i64 y8.1.1 255)::[])) y8.2.2.2.2.1)<|
 Ah (bits BinOp.and IntKind.i64 y8.1.1 255) y8.2.2.1 y8.2.2.2.2.1)<|
 A1.bind fun y8=>
 (ES.kr rK b3.b y8.2.2.1 y8.2.2.2.2.1).bind fun y9=>
 Ah y9.1.1 y9.2.2.1 y9.2.2.2.2.1
def Lf.kB (rK:Bd.T) (tK:BD.KT):Lf.T:=fun t10 t140 t141 t142 k0 k1 b3=>
 ci (t142<t141) (ck (0<=t142/\t142<I t140.length)<|
 ck (t142.toNat<t140.length)<|
 (ES.kr rK (List.getD t140 t142.toNat 0) k0 k1).bind fun y3=>
 ck (Cu none (room 8 (t10.length+(y3.1.1::[]).length)))<|
 ck (Az (t142+1))<|
 tK.2.2.1 (t10++y3.1.1::[]) t140 t141 (t142+1) y3.2.2.1 y3.2.2.2.2.1 b3)<|
 (S3.k k0.p b3.text).bind fun y3=>
 (m64.kr rK y3.1.1 t10 k0).bind fun y4=>
 Ah y4.1.1 y4.2.1 k1
def BD.kS (rK:Bd.T) (tK:BD.KT):BD.KT:=(Ex.kB rK tK,Ld.kB rK tK,Lf.kB rK tK,())
def BD.kL (rK:Bd.T) (n:Nat):BD.KT:=Cw (BD.kS rK) n
def BD.k0 (rK:Bd.T) (tK:BD.KT) (t1:Int) (k0:ER) (k1:EF):R2 Int ER EF:=
 (FK.k k0).bind fun y2=>
 let z1:R2 Int ER EF:=
 (II.kr rK (List.getD (ER.p y2.2.1).nodes t1.toNat Dop.d5) y2.2.1 k1).bind Bp
 ci (!y2.1.1) (Ah 0 y2.2.1 k1)<|
 ck (0<=t1/\t1<I (ER.p y2.2.1).nodes.length)<|
 ci ((List.getD (ER.p y2.2.1).nodes t1.toNat Dop.d5).kind=1) (Ah ((List.getD (ER.p y2.2.1).nodes t1.toNat Dop.d5).n) y2.2.1 k1)<|
 ci ((List.getD (ER.p y2.2.1).nodes t1.toNat Dop.d5).kind=2) (ck (0<=(List.getD (ER.p y2.2.1).nodes t1.toNat Dop.d5).n/\(List.getD (ER.p y2.2.1).nodes t1.toNat Dop.d5).n<I k1.An.length)<|
 ck ((List.getD (ER.p y2.2.1).nodes t1.toNat Dop.d5).n.toNat<k1.An.length)<|
 Ah (List.getD k1.An (List.getD (ER.p y2.2.1).nodes t1.toNat Dop.d5).n.toNat 0) y2.2.1 k1)<|
 ci ((List.getD (ER.p y2.2.1).nodes t1.toNat Dop.d5).kind=3) (ck (Az (k1.base+(List.getD (ER.p y2.2.1).nodes t1.toNat Dop.d5).n))<|
 (EC.k (k1.base+(List.getD (ER.p y2.2.1).nodes t1.toNat Dop.d5).n)).bind fun y7=>
 Ah y7.1.1 y2.2.1 k1)<|
 ci ((List.getD (ER.p y2.2.1).nodes t1.toNat Dop.d5).kind=4) (ci ((List.getD (ER.p y2.2.1).nodes t1.toNat Dop.d5).kind=4) (z1)<|
 tK.1 ((List.getD (ER.p y2.2.1).nodes t1.toNat Dop.d5).kind) y2.2.1 k1 (List.getD (ER.p y2.2.1).nodes t1.toNat Dop.d5))<|
 ci ((List.getD (ER.p y2.2.1).nodes t1.toNat Dop.d5).kind=5) (z1)<|
 tK.1 ((List.getD (ER.p y2.2.1).nodes t1.toNat Dop.d5).kind) y2.2.1 k1 (List.getD (ER.p y2.2.1).nodes t1.toNat Dop.d5)
def BD.kf (rK:Bd.T) (t1:Int) (k0:ER) (k1:EF):R2 Int ER EF:=BD.k0 rK (BD.kL rK 1000000) t1 k0 k1
def II.kf (rK:Bd.T) (x:Dop.AU) (k0:ER) (k1:EF):R2 Int ER EF:=
 (BD.kr rK x.a k0 k1).bind fun y2=>
 ci (x.kind=5) ((BD.kr rK x.b y2.2.1 y2.2.2.1).bind fun y4=>
 ci (!(ER.end_ y4.2.1=0)) (Ah 0 y4.2.1 y4.2.2.1)<|
 (Ey.k y2.1.1).bind fun y6=>
 ci (y6.1.1<1) ((Mz.k 2 1 y4.2.1).bind fun y8=>
 Ah 0 y8.2.1 y4.2.2.1)<|
 ci (I (ER.mem y4.2.1).length<=y6.1.1) ((Mz.k 2 1 y4.2.1).bind fun y9=>
 Ah 0 y9.2.1 y4.2.2.1)<|
 ck (0<=y6.1.1/\y6.1.1<I (ER.mem y4.2.1).length)<|
 ci (x.kind=4) (ck (y6.1.1.toNat<(ER.mem y4.2.1).length)<|
 Ah (List.getD (ER.mem y4.2.1) y6.1.1.toNat 0) y4.2.1 y4.2.2.1)<|
 ck (y6.1.1.toNat<(ER.mem y4.2.1).length)<|
 Ah y4.1.1 (ER.Yl y4.2.1 ((ER.mem y4.2.1).set y6.1.1.toNat y4.1.1)) y4.2.2.1)<|
 ci (!(ER.end_ y2.2.1=0)) (Ah 0 y2.2.1 y2.2.2.1)<|
 (Ey.k y2.1.1).bind fun y5=>
 ci (y5.1.1<1) ((Mz.k 2 1 y2.2.1).bind fun y7=>
 Ah 0 y7.2.1 y2.2.2.1)<|
 ci (I (ER.mem y2.2.1).length<=y5.1.1) ((Mz.k 2 1 y2.2.1).bind fun y8=>
 Ah 0 y8.2.1 y2.2.2.1)<|
 ck (0<=y5.1.1/\y5.1.1<I (ER.mem y2.2.1).length)<|
 ci (x.kind=4) (ck (y5.1.1.toNat<(ER.mem y2.2.1).length)<|
 Ah (List.getD (ER.mem y2.2.1) y5.1.1.toNat 0) y2.2.1 y2.2.2.1)<|
 ck (y5.1.1.toNat<(ER.mem y2.2.1).length)<|
 Ah 0 (ER.Yl y2.2.1 ((ER.mem y2.2.1).set y5.1.1.toNat 0)) y2.2.2.1
def ES.kf (rK:Bd.T) (n:Int) (k1:ER) (k3:EF):Option ((Int×Unit)×((Unit×Unit)×ER×(Unit×Unit)×EF×Unit)):=
 (BD.kr rK n k1 k3).bind fun y2=>
 some ((y2.1.1,()),(((),()),(y2.2.1,(((),()),(y2.2.2.1,())))))
def Fz.kf (rK:Bd.T) (x:Dop.AU) (k0:ER) (k1:EF):R2 Int ER EF:=
 (BD.kr rK x.a k0 k1).bind fun y2=>
 ci (x.kind=8) ((BD.kr rK x.b y2.2.1 y2.2.2.1).bind fun y4=>
 ci (!(ER.end_ y4.2.1=0)) (Ah 0 y4.2.1 y4.2.2.1)<|
 (BJ.k x.n y2.1.1 y4.1.1).bind fun y6=>
 ci (!y6.1.2.1) ((Mz.k 2 2 y4.2.1).bind fun y8=>
 Ah y8.1.1 y8.2.1 y4.2.2.1)<|
 Ah y6.1.1 y4.2.1 y4.2.2.1)<|
 ci (!(ER.end_ y2.2.1=0)) (Ah 0 y2.2.1 y2.2.2.1)<|
 (BJ.k x.n y2.1.1 0).bind fun y5=>
 ci (!y5.1.2.1) ((Mz.k 2 2 y2.2.1).bind fun y7=>
 Ah y7.1.1 y7.2.1 y2.2.2.1)<|
 Ah y5.1.1 y2.2.1 y2.2.2.1
abbrev PZ.T:Type:=Int->ER->EF->Dop.AU->R2 Int ER EF
abbrev Pa.T:Type:=Int->Bool->ER->EF->Dop.AU->R2 Int ER EF
abbrev Lg.T:Type:=Int->Bool->Int->ER->EF->Dop.AU->R2 Int ER EF
abbrev Lh.T:Type:=Int->ER->EF->R2 Int ER EF
abbrev Li.T:Type:=Int->Bool->ER->EF->Dop.AU->R2 Int ER EF
abbrev Lj.T:Type:=Int->Bool->ER->EF->Dop.AU->R2 Int ER EF
abbrev BW.KT:Type:=PZ.T×Pa.T×Lg.T×Lh.T×Li.T×Lj.T×Unit
def PZ.kB (rK:Bd.T) (tK:BW.KT):PZ.T:=fun t7 k0 k1 b2=>
 ci (!(k1.KX=0)) (tK.2.1 t7 true k0 k1 b2)<|
 tK.2.1 t7 (decide (b2.kind=33)) k0 k1 b2
def Pa.kB (rK:Bd.T) (tK:BW.KT):Pa.T:=fun t7 t8 k0 k1 b2=>
 ci (b2.kind=34) (tK.2.2.1 t7 t8 b2.b k0 k1 b2)<|
 tK.2.2.1 t7 t8 b2.a k0 k1 b2
def Lg.kB (rK:Bd.T) (tK:BW.KT):Lg.T:=fun t7 t8 t9 k0 k1 b2=>
 let A1:=Cn.kr rK t7 k0 k1
 let F1:Y2 Int ER EF->R2 Int ER EF:=fun y4=>
 ci (y4.1.1=1) (Ah 0 y4.2.1 y4.2.2.1)<|
 ci (y4.1.1=3) (ci (y4.1.1=3) (tK.2.2.2.1 y4.1.1 y4.2.1 y4.2.2.1)<|
 tK.2.2.2.2.1 t7 false y4.2.1 y4.2.2.1 b2)<|
 ci (y4.1.1=4) (ci (y4.1.1=4) (tK.2.2.2.1 y4.1.1 y4.2.1 y4.2.2.1)<|
 tK.2.2.2.2.1 t7 false y4.2.1 y4.2.2.1 b2)<|
 ci (y4.1.1=5) (tK.2.2.2.1 y4.1.1 y4.2.1 y4.2.2.1)<|
 tK.2.2.2.2.1 t7 false y4.2.1 y4.2.2.1 b2
 ci (!t8) (ci (0<=t9) ((BD.kr rK t9 k0 k1).bind fun y4=>
 ci (y4.1.1=0) (Ah 0 y4.2.1 y4.2.2.1)<|
 ci (!t8) (ci (t9<0) ((FK.k y4.2.1).bind fun y8=>
 ci (!y8.1.1) (Ah 5 y8.2.1 y4.2.2.1)<|
 (Cn.kr rK t7 y8.2.1 y4.2.2.1).bind F1)<|
 (Cn.kr rK t7 y4.2.1 y4.2.2.1).bind F1)<|
 (Cn.kr rK t7 y4.2.1 y4.2.2.1).bind F1)<|
 ci (!t8) (ci (t9<0) ((FK.k k0).bind fun y6=>
 ci (!y6.1.1) (Ah 5 y6.2.1 k1)<|
 (Cn.kr rK t7 y6.2.1 k1).bind F1)<|
 A1.bind F1)<|
 A1.bind F1)<|
 ci (!t8) (ci (t9<0) ((FK.k k0).bind fun y5=>
 ci (!y5.1.1) (Ah 5 y5.2.1 k1)<|
 (Cn.kr rK t7 y5.2.1 k1).bind F1)<|
 A1.bind F1)<|
 A1.bind F1
def Lh.kB (rK:Bd.T) (tK:BW.KT):Lh.T:=fun t10 k0 k1=>
 Ah t10 k0 k1
def Li.kB (rK:Bd.T) (tK:BW.KT):Li.T:=fun t7 t8 k0 k1 b2=>
 ci (b2.kind=34) (ci (0<=b2.c) ((BD.kr rK b2.c k0 k1).bind fun y4=>
 tK.2.2.2.2.2.1 t7 t8 y4.2.1 y4.2.2.1 b2)<|
 tK.2.2.2.2.2.1 t7 t8 k0 k1 b2)<|
 tK.2.2.2.2.2.1 t7 t8 k0 k1 b2
def Lj.kB (rK:Bd.T) (tK:BW.KT):Lj.T:=fun t7 t8 k0 k1 b2=>
 ci (!(k0.end_=0)) (Ah 5 k0 k1)<|
 tK.2.1 t7 t8 k0 k1 b2
def BW.kS (rK:Bd.T) (tK:BW.KT):BW.KT:=(PZ.kB rK tK,Pa.kB rK tK,Lg.kB rK tK,Lh.kB rK tK,Li.kB rK tK,Lj.kB rK tK,())
def BW.kL (rK:Bd.T) (n:Nat):BW.KT:=Cw (BW.kS rK) n
def BW.k0 (rK:Bd.T) (tK:BW.KT) (t1:Dop.AU) (k0:ER) (k1:EF):R2 Int ER EF:=
 ci (t1.kind=34) (ci (k1.KX=0) (ci (0<=t1.a) ((BD.kr rK t1.a k0 k1).bind fun y5=>
 tK.1 t1.d y5.2.1 y5.2.2.1 t1)<|
 tK.1 t1.d k0 k1 t1)<|
 tK.1 t1.d k0 k1 t1)<|
 tK.1 t1.b k0 k1 t1
def BW.kf (rK:Bd.T) (t1:Dop.AU) (k0:ER) (k1:EF):R2 Int ER EF:=BW.k0 rK (BW.kL rK 1000000) t1 k0 k1
def HC.kf (rK:Bd.T) (x:Dop.AU) (k0:ER) (k1:EF):R2 Int ER EF:=(Ac (S:=Dop.D4) prog 187 tb (Bd.ct rK++[DM.Nn]) HC.p).Ez 3000 1000000 HC.p.sp (((),x,(),()),(k0,k1,()))
def Bd.kS (r:Bd.T):Bd.T:=(fun x=>m64.kf r x.1.2.1 x.1.2.2.1 x.2.1,fun x=>Cn.kf r x.1.2.1 x.2.1 x.2.2.1,fun x=>BH.kf r x.1.2.1 x.2.1 x.2.2.1,fun x=>BD.kf r x.1.2.1 x.2.1 x.2.2.1,fun x=>II.kf r x.1.2.1 x.2.1 x.2.2.1,fun x=>ES.kf r x.1.1 x.2.2.1 x.2.2.2.2.1,fun x=>Fz.kf r x.1.2.1 x.2.1 x.2.2.1,fun x=>BW.kf r x.1.2.1 x.2.1 x.2.2.1,fun x=>HC.kf r x.1.2.1 x.2.1 x.2.2.1,())
def Bd.kR (n:Nat):Bd.T:=Cw Bd.kS n
def m64.Kc (n:Nat):=kd 64 m64.p (Bd.kR n).1
def m64.Nn:=m64.Kc FU
def m64.k:=m64.kr (Bd.kR FU)
def Cn.Kc (n:Nat):=kd 116 Cn.p (Bd.kR n).2.1
def BH.Kc (n:Nat):=kd 154 BH.p (Bd.kR n).2.2.1
def BD.Kc (n:Nat):=kd 185 BD.p (Bd.kR n).2.2.2.1
def II.Kc (n:Nat):=kd 211 II.p (Bd.kR n).2.2.2.2.1
def ES.Kc (n:Nat):=kd 210 ES.p (Bd.kR n).2.2.2.2.2.1
def Fz.Kc (n:Nat):=kd 212 Fz.p (Bd.kR n).2.2.2.2.2.2.1
def BW.Kc (n:Nat):=kd 186 BW.p (Bd.kR n).2.2.2.2.2.2.2.1
def HC.Kc (n:Nat):=kd 187 HC.p (Bd.kR n).2.2.2.2.2.2.2.2.1
def Bd.Ry (n:Nat):List (Bw Dop.D4):=[m64.Kc n,Cn.Kc n,BH.Kc n,BD.Kc n,II.Kc n,ES.Kc n,Fz.Kc n,BW.Kc n,HC.Kc n]
theorem Bd.Et: ∀ n,(m64.Kc n).Holds prog/\(Cn.Kc n).Holds prog/\(BH.Kc n).Holds prog/\(BD.Kc n).Holds prog/\(II.Kc n).Holds prog/\(ES.Kc n).Holds prog/\(Fz.Kc n).Holds prog/\(BW.Kc n).Holds prog/\(HC.Kc n).Holds prog/\True
 | 0=>⟨AO AH m64.ok,AO AH Cn.ok,AO AH BH.ok,AO AH BD.ok,AO AH II.ok,AO AH ES.ok,AO AH Fz.ok,AO AH BW.ok,AO AH HC.ok,trivial⟩
 | n+1=>by
  obtain ⟨h0,h1,h2,h3,h4,h5,h6,h7,h8,_⟩:=Bd.Et n
  have hh: ∀ c∈Bd.Ry n,c.Holds prog:=(hc h0 (hc h1 (hc h2 (hc h3 (hc h4 (hc h5 (hc h6 (hc h7 (hc h8 hn)))))))))
  exact ⟨F4 AH (Ab hh (hc Mz.Kh (hc FK.Kh hn))) m64.ok (fun t x=>m64.k0 (Bd.kR n) t x.1.2.1 x.1.2.2.1 x.2.1) (fun c=>(fun k0 b1 k2=>c 9 m64.q9 rfl (((),(),(),()),(k0,(b1,()),k2,())),fun k0 b1 k2=>c 100009 m64.UX rfl (((),(),(),()),(k0,(b1,()),k2,())),())) (m64.kS (Bd.kR n)) (by kernel_rfl),
   kh AH (Ab hh (hc DM.IN (hc FK.Kh hn))) Cn.ok (by kernel_rfl),
   F4 AH (Ab hh (hc DM.IN (hc DK.Kh hn))) BH.ok (fun t x=>BH.k0 (Bd.kR n) t x.1.2.1 x.2.1 x.2.2.1) (fun c=>(fun t11 k0 k1 b2=>c 18 BH.jE rfl (((),(),(),t11,()),(k0,k1,(b2,()),())),fun k0 k1 b2=>c 35 BH.mO rfl (((),(),(),()),(k0,k1,(b2,()),())),fun t11 k0 k1 b2=>c 38 BH.mP rfl (((),(),(),t11,()),(k0,k1,(b2,()),())),fun t182 t183 t184 k0 k1=>c 42 BH.mS rfl (((),(),t182,t183,t184,()),(k0,k1,())),())) (BH.kS (Bd.kR n)) (by kernel_rfl),
   F4 AH (Ab hh (hc FK.Kh (hc EC.Kh (hc Jg.Kh (hc DK.Kh (hc S3.Kh hn)))))) BD.ok (fun t x=>BD.k0 (Bd.kR n) t x.1.2.1 x.2.1 x.2.2.1) (fun c=>(fun t28 k0 k1 b4=>c 15 BD.bf rfl (((),(),(),(),t28,()),(k0,k1,((),()),((),()),(b4,()),())),fun t28 k0 k1 b3=>c 23 BD.jH rfl (((),(),(),t28,()),(k0,k1,((),()),(b3,()),((),()),())),fun t10 t140 t141 t142 k0 k1 b3=>c 34 BD.mN rfl (((),(),(),t10,t140,t141,t142,()),(k0,k1,((),()),(b3,()),((),()),())),())) (BD.kS (Bd.kR n)) (by kernel_rfl),
   kh AH (Ab hh (hc Ey.Kh (hc Mz.Kh hn))) II.ok (by kernel_rfl),
   kh AH (Ab hh hn) ES.ok (by kernel_rfl),
   kh AH (Ab hh (hc BJ.Kh (hc Mz.Kh hn))) Fz.ok (by kernel_rfl),
   F4 AH (Ab hh (hc FK.Kh hn)) BW.ok (fun t x=>BW.k0 (Bd.kR n) t x.1.2.1 x.2.1 x.2.2.1) (fun c=>(fun t7 k0 k1 b2=>c 6 BW.q6 rfl (((),(),(),t7,()),(k0,k1,(b2,()),())),fun t7 t8 k0 k1 b2=>c 7 BW.q7 rfl (((),(),(),t7,t8,()),(k0,k1,(b2,()),())),fun t7 t8 t9 k0 k1 b2=>c 10 BW.VW rfl (((),(),(),t7,t8,t9,()),(k0,k1,(b2,()),())),fun t10 k0 k1=>c 22 BW.jG rfl ((t10,()),(k0,k1,())),fun t7 t8 k0 k1 b2=>c 23 BW.jH rfl (((),(),(),t7,t8,()),(k0,k1,(b2,()),())),fun t7 t8 k0 k1 b2=>c 25 BW.mI rfl (((),(),(),t7,t8,()),(k0,k1,(b2,()),())),())) (BW.kS (Bd.kR n)) (by kernel_rfl),
   kh AH (Ab hh (hc DM.IN hn)) HC.ok (by kernel_rfl),
   trivial⟩
theorem m64.IN:m64.Nn.Holds prog:=(Bd.Et FU).1
abbrev Kv.T:Type:=List Dop.Nl->Int->Int->Dop.IF->Int->Int->List Int->ER->Ei Dop.QE
abbrev Gr.KT:Type:=Kv.T×Unit
def Kv.kB (tK:Gr.KT):Kv.T:=fun t22 t23 t24 b0 b1_0 b1_1 b1_2 k2=>
 let A1:=List.getD t22 t24.toNat Dop.d12
 ci (t24<t23) (ck (0<=t24/\t24<I t22.length)<|
 ck (0<=A1.at_/\A1.at_<I k2.mem.length)<|
 ck (A1.at_.toNat<k2.mem.length)<|
 ck (Az (t24+1))<|
 tK.1 t22 t23 (t24+1) b0 b1_0 b1_1 b1_2 ((ER.Yl k2 (k2.mem.set A1.at_.toNat A1.bR))))<|
 (S3.k b0 ([109,97,105,110]:List UInt8)).bind fun y3=>
 (m64.k y3.1.1 [] k2).bind fun y4=>
 ci (ER.end_ y4.2.1=0) ((Mz.k 1 y4.1.1 y4.2.1).bind fun y6=>
 CO (Dop.QE.mk (ER.end_ y6.2.1) (ER.code y6.2.1) (ER.out y6.2.1)))<|
 CO (Dop.QE.mk (ER.end_ y4.2.1) (ER.code y4.2.1) (ER.out y4.2.1))
def Gr.kS (tK:Gr.KT):Gr.KT:=(Kv.kB tK,())
def Gr.kL (n:Nat):Gr.KT:=Cw Gr.kS n
def Gr.k0 (tK:Gr.KT) (p:Dop.IF) (input:List Int) (fuel:Int):Ei Dop.QE:=
 ck ((0:Int)<=4096/\(4096:Int)<=4096/\4096*(I (8:Nat)+1)<=140737488355328)<|
 tK.1 p.globals (I p.globals.length) 0 p 0 0 [] ((p,List.replicate (Int.toNat 4096) 0,p.top,input,[],if 1000000<if fuel<0 then 0 else fuel then 1000000 else if fuel<0 then 0 else fuel,0,0,(0:Int),(),()))
def Gr.k (p:Dop.IF) (input:List Int) (fuel:Int):Ei Dop.QE:=Gr.k0 (Gr.kL 1000000) p input fuel
def Gr.Kc:=kd 36 Gr.p fun x=>Gr.k x.1.1 x.1.2.1 x.1.2.2.1
theorem Gr.Kh:Gr.Kc.Holds prog:=F4 AH (hc S3.Kh (hc m64.IN (hc Mz.Kh hn))) Gr.ok (fun t x=>Gr.k0 t x.1.1 x.1.2.1 x.1.2.2.1) (fun c=>(fun t22 t23 t24 b0 b1_0 b1_1 b1_2 k2=>c 3 Gr.q3 rfl (((),(),(),t22,t23,t24,()),((b0,()),(b1_0,b1_1,b1_2,()),k2,())),())) Gr.kS (by kernel_rfl)
def Rt.k (s:List UInt8) (input:List Int) (fuel:Int):LH Dop.QE Int:=
 (m18.k s).bind fun y2=>
 ci (!(y2.1.2.2.1=0)) (GP (Dop.QE.mk 0 0 []) y2.1.2.2.1)<|
 (Gr.k y2.1.1 input fuel).bind fun y4=>
 GP y4.1.1 0
def Rt.Kc:=kd 30 Rt.p fun x=>Rt.k x.1.1 x.1.2.1 x.1.2.2.1
theorem Rt.Kh:Rt.Kc.Holds prog:=kh AH (hc m18.Kh (hc Gr.Kh hn)) Rt.ok (by kernel_rfl)
def Xw.k :Ei Bool:=
 (Rt.k ([105,110,116,32,109,97,105,110,40,41,123,112,117,116,99,40,54,53,41,59,114,101,116,117,114,110,32,55,59,125]:List UInt8) [] 100).bind fun y2=>
 ci (y2.1.2.1=0) (ci (y2.1.1.end_=1) (ci (y2.1.1.code=7) (ci (I y2.1.1.output.length=1) (ck ((0:Int)<=0/\0<I y2.1.1.output.length)<|
 CO (decide (List.getD y2.1.1.output (Int.toNat 0) (0:Int)=65)))<|
 CO false)<|
 CO false)<|
 CO false)<|
 CO false
def Xw.Kc:=kd 29 Xw.p fun x=>Xw.k
theorem Xw.Kh:Xw.Kc.Holds prog:=kh AH (hc Rt.Kh hn) Xw.ok (by kernel_rfl)
end
end Go.Proofs.Tryz
