/-
 Functions in plain words (what their equations say), and their contracts. Written by a program.
-/
import Derived.Test.YtkpggdcpaeanaaaGreatDoorTwD
import Derived.Test.YtkpggdcpaeanaaaGreatDoorMm
set_option maxRecDepth 100000
set_option maxHeartbeats 4000000
namespace Go.Proofs.Tryz
open Go Go.En
noncomputable section
def Eb.k (n:Int) (k0:CT):UD Dop.Gr Bool CT:=
 let A1:=Oh (Dop.Gr.mk 0 0 0 []) false k0
 ci (n<0) A1<|
 ci (I k0.l.length≤n) A1<|
 ck (0≤n∧n<I k0.l.length)<|
 ck (n.toNat<k0.l.length)<|
 Oh (List.getD k0.l n.toNat Dop.d6) true k0
def Eb.Kc:=kd 163 Eb.p fun x=>Eb.k x.1.2.1 x.2.1
theorem Eb.Kh:Eb.Kc.Holds prog:=kh AJ hn Eb.ok (by kernel_rfl)
def IE.k (x:Dop.Gr) (k0:CT):UD Int Int CT:=
 (Dd.k k0.l x).bind fun y2=>
 ci (0≤y2.1.1) (Oh y2.1.1 0 k0)<|
 ci (I k0.l.length=256) (Oh 0 4 k0)<|
 ck (Cj none (room 40 (k0.l.length+(x::[]).length)))<|
 ck (Av (I (k0.l++x::[]).length -1))<|
 Oh (I (k0.l++x::[]).length -1) 0 (CT.iI k0 (k0.l++x::[]))
def IE.Kc:=kd 193 IE.p fun x=>IE.k x.1.2.1 x.2.1
theorem IE.Kh:IE.Kc.Holds prog:=kh AJ (hc Dd.Kh hn) IE.ok (by kernel_rfl)
def IA.k (elem:Int) (k0:CT):UD Int Int CT:=
 (Eb.k elem k0).bind fun y2=>
 ci (!y2.1.2.1) (Oh 0 1 y2.2.1)<|
 (IE.k (Dop.Gr.mk 4 elem 0 []) y2.2.1).bind gZ
def IA.Kc:=kd 159 IA.p fun x=>IA.k x.1.2.1 x.2.1
theorem IA.Kh:IA.Kc.Holds prog:=kh AJ (hc Eb.Kh (hc IE.Kh hn)) IA.ok (by kernel_rfl)
abbrev BW.kr (r:Fa.T) (t1:Int) (k0:CT):UD Int Bool CT:=r.1 (((),t1,()),(k0,()))
abbrev Kj.T:Type:=Int→List Dop.Mg→Int→Int→CT→UD Int Bool CT
abbrev BW.KT:Type:=Kj.T×Unit
def Kj.kB (rK:Fa.T) (tK:BW.KT):Kj.T:=fun t10 t54 t55 t56 k0=>
 ci (t56<t55) (ck (0≤t56∧t56<I t54.length)<|
 (BW.kr rK ((List.getD t54 t56.toNat Dop.d16).AW) k0).bind fun y3=>
 ck (Av (t10+y3.1.1))<|
 ck (Av (t56+1))<|
 tK.1 (t10+y3.1.1) t54 t55 (t56+1) y3.2.1)<|
 Oh t10 (decide (0<t10)) k0
def BW.kS (rK:Fa.T) (tK:BW.KT):BW.KT:=(Kj.kB rK tK,())
def BW.kL (rK:Fa.T) (n:Nat):BW.KT:=Eu (BW.kS rK) n
def BW.k0 (rK:Fa.T) (tK:BW.KT) (t1:Int) (k0:CT):UD Int Bool CT:=
 (Eb.k t1 k0).bind fun y2=>
 ci (!y2.1.2.1) (Oh 0 false y2.2.1)<|
 ci (y2.1.1.kind=0) (Oh 0 false y2.2.1)<|
 ci (y2.1.1.kind=5) ((BW.kr rK y2.1.1.elem y2.2.1).bind fun y6=>
 ck (Av (y6.1.1*y2.1.1.n))<|
 Oh (y6.1.1*y2.1.1.n) true y6.2.1)<|
 ci (y2.1.1.kind=6) (tK.1 0 ((AL (CT.fields y2.2.1) y2.1.1.name).getD []) (I ((AL (CT.fields y2.2.1) y2.1.1.name).getD []).length) 0 y2.2.1)<|
 Oh 1 true y2.2.1
def BW.kf (rK:Fa.T) (t1:Int) (k0:CT):UD Int Bool CT:=BW.k0 rK (BW.kL rK 1000000) t1 k0
def Fa.kS (r:Fa.T):Fa.T:=(fun x=>BW.kf r x.1.2.1 x.2.1,())
def Fa.kR (n:Nat):Fa.T:=Eu Fa.kS n
def BW.Kc (n:Nat):=kd 124 BW.p (Fa.kR n).1
def BW.QZ:=BW.Kc FU
def BW.k:=BW.kr (Fa.kR FU)
def Fa.UJ (n:Nat):List (Bw Dop.D4):=[BW.Kc n]
theorem Fa.Gg: ∀ n,(BW.Kc n).Holds prog∧True
 | 0=>⟨Ae AJ BW.ok,trivial⟩
 | n+1=>by
  obtain ⟨h0,_⟩:=Fa.Gg n
  have hh: ∀ c∈Fa.UJ n,c.Holds prog:=(hc h0 hn)
  exact ⟨GG AJ (BA hh (hc Eb.Kh hn)) BW.ok (fun t x=>BW.k0 (Fa.kR n) t x.1.2.1 x.2.1) (fun c=>(fun t10 t54 t55 t56 k0=>c 10 BW.ZC rfl (((),t10,t54,t55,t56,()),(k0,())),())) (BW.kS (Fa.kR n)) (by kernel_rfl),
   trivial⟩
theorem BW.J1:BW.QZ.Holds prog:=(Fa.Gg FU).1
def Ji.k (elem n:Int) (k0:CT):UD Int Int CT:=
 (Eb.k elem k0).bind fun y2=>
 ci (!y2.1.2.1) (Oh 0 1 y2.2.1)<|
 (BW.k elem y2.2.1).bind fun y4=>
 ci (!y4.1.2.1) (Oh 0 8 y4.2.1)<|
 ci (n<1) (Oh 0 4 y4.2.1)<|
 ci (1024<n) (Oh 0 4 y4.2.1)<|
 ck (Av (y4.1.1*n))<|
 ci (4096<y4.1.1*n) (Oh 0 4 y4.2.1)<|
 (IE.k (Dop.Gr.mk 5 elem n []) y4.2.1).bind gZ
def Ji.Kc:=kd 160 Ji.p fun x=>Ji.k x.1.2.1 x.1.2.2.1 x.2.1
theorem Ji.Kh:Ji.Kc.Holds prog:=kh AJ (hc Eb.Kh (hc BW.J1 (hc IE.Kh hn))) Ji.ok (by kernel_rfl)
def IB.k (name:List UInt8) (k0:CT):UD Int Int CT:=
 ci (name=[]) (Oh 0 1 k0)<|
 (IE.k (Dop.Gr.mk 6 0 0 name) k0).bind gZ
def IB.Kc:=kd 161 IB.p fun x=>IB.k x.1.2.1 x.2.1
theorem IB.Kh:IB.Kc.Holds prog:=kh AJ (hc IE.Kh hn) IB.ok (by kernel_rfl)
def DL.k (n:Int) (k0:CT):R1 Bool CT:=
 (Eb.k n k0).bind fun y2=>
 ci (1≤y2.1.1.kind) (Cs (decide (y2.1.1.kind≤4)) y2.2.1)<|
 Cs false y2.2.1
def DL.Kc:=kd 128 DL.p fun x=>DL.k x.1.2.1 x.2.1
theorem DL.Kh:DL.Kc.Holds prog:=kh AJ (hc Eb.Kh hn) DL.ok (by kernel_rfl)
abbrev OM.T:Type:=List UInt8→Int→List Dop.Mg→Int→Int→CT→fZ Int Int Bool CT
abbrev Dm.KT:Type:=OM.T×Unit
def OM.kB (tK:Dm.KT):OM.T:=fun name at_ t35 t36 t37 k0=>
 let A1:=List.getD t35 t37.toNat Dop.d16
 ci (t37<t36) (ck (0≤t37∧t37<I t35.length)<|
 ci (A1.name=name) (fo at_ (A1.AW) true k0)<|
 (BW.k (A1.AW) k0).bind fun y4=>
 ck (Av (at_+y4.1.1))<|
 ck (Av (t37+1))<|
 tK.1 name (at_+y4.1.1) t35 t36 (t37+1) y4.2.1)<|
 fo 0 0 false k0
def Dm.kS (tK:Dm.KT):Dm.KT:=(OM.kB tK,())
def Dm.kL (n:Nat):Dm.KT:=Eu Dm.kS n
def Dm.k0 (tK:Dm.KT) (n:Int) (name:List UInt8) (k0:CT):fZ Int Int Bool CT:=
 (Eb.k n k0).bind fun y2=>
 ci (!y2.1.2.1) (fo 0 0 false y2.2.1)<|
 ci (!(y2.1.1.kind=6)) (fo 0 0 false y2.2.1)<|
 tK.1 name 0 ((AL (CT.fields y2.2.1) y2.1.1.name).getD []) (I ((AL (CT.fields y2.2.1) y2.1.1.name).getD []).length) 0 y2.2.1
def Dm.k (n:Int) (name:List UInt8) (k0:CT):fZ Int Int Bool CT:=Dm.k0 (Dm.kL 1000000) n name k0
def Dm.Kc:=kd 248 Dm.p fun x=>Dm.k x.1.2.1 x.1.2.2.1 x.2.1
theorem Dm.Kh:Dm.Kc.Holds prog:=GG AJ (hc Eb.Kh (hc BW.J1 hn)) Dm.ok (fun t x=>Dm.k0 t x.1.2.1 x.1.2.2.1 x.2.1) (fun c=>(fun name at_ t35 t36 t37 k0=>c 6 Dm.q6 rfl (((),name,at_,t35,t36,t37,()),(k0,())),())) Dm.kS (by kernel_rfl)
def Md.k (n:Int) (k0:CK) (k1:CT):R2 Dop.Aa CK CT:=
 let A1:=BR (Dop.Aa.mk 0 (-1) (-1) (-1) (-1) [] 0 0 0) k0 k1
 ci (n<0) A1<|
 ci (I k0.t.nodes.length≤n) A1<|
 ck (0≤n∧n<I k0.t.nodes.length)<|
 BR (List.getD k0.t.nodes n.toNat Dop.d5) k0 k1
def Md.Kc:=kd 74 Md.p fun x=>Md.k x.1.2.1 x.2.1 x.2.2.1
theorem Md.Kh:Md.Kc.Holds prog:=kh AJ hn Md.ok (by kernel_rfl)
def Ac.k (e n:Int) (k0:CK) (k1:CT):R2 Dop.AZ CK CT:=
 let A1:=Dop.AZ.mk (-1) 1 0 0 false
 ci (k0.e=0) ((Md.k n k0 k1).bind fun y3=>
 BR A1 (CK.E7 (CK.Wr y3.2.1 e) y3.1.1.at_) y3.2.2.1)<|
 BR A1 k0 k1
def Ac.Kc:=kd 123 Ac.p fun x=>Ac.k x.1.2.1 x.1.2.2.1 x.2.1 x.2.2.1
theorem Ac.Kh:Ac.Kc.Holds prog:=kh AJ (hc Md.Kh hn) Ac.ok (by kernel_rfl)
def Ch.k (t:Int) (k0:CK) (k1:CT):R2 Int CK CT:=
 (Eb.k t k1).bind fun y2=>
 BR y2.1.1.kind k0 y2.2.1
def Ch.Kc:=kd 127 Ch.p fun x=>Ch.k x.1.2.1 x.2.1 x.2.2.1
theorem Ch.Kh:Ch.Kc.Holds prog:=kh AJ (hc Eb.Kh hn) Ch.ok (by kernel_rfl)
def Dc.k (t:Int) (k0:CK) (k1:CT):R2 Bool CK CT:=
 (Ch.k t k0 k1).bind fun y2=>
 ci (y2.1.1=1) (BR true y2.2.1 y2.2.2.1)<|
 ci (y2.1.1=2) (BR true y2.2.1 y2.2.2.1)<|
 BR (decide (y2.1.1=3)) y2.2.1 y2.2.2.1
def Dc.Kc:=kd 125 Dc.p fun x=>Dc.k x.1.2.1 x.2.1 x.2.2.1
theorem Dc.Kh:Dc.Kc.Holds prog:=kh AJ (hc Ch.Kh hn) Dc.ok (by kernel_rfl)
def Fc.k (t:Int) (k0:CK) (k1:CT):c6 Int Int CK CT:=
 (Eb.k t k1).bind fun y2=>
 (BW.k y2.1.1.elem y2.2.1).bind fun y3=>
 ci (!y3.1.2.1) (Mf y2.1.1.elem 1 k0 y3.2.1)<|
 Mf y2.1.1.elem y3.1.1 k0 y3.2.1
def Fc.Kc:=kd 228 Fc.p fun x=>Fc.k x.1.2.1 x.2.1 x.2.2.1
theorem Fc.Kh:Fc.Kc.Holds prog:=kh AJ (hc Eb.Kh (hc BW.J1 hn)) Fc.ok (by kernel_rfl)
def I3.k (t:Int) (k0:CK) (k1:CT):R2 Bool CK CT:=
 (Ch.k t k0 k1).bind fun y2=>
 ci (y2.1.1=2) (BR true y2.2.1 y2.2.2.1)<|
 BR (decide (y2.1.1=4)) y2.2.1 y2.2.2.1
def I3.Kc:=kd 242 I3.p fun x=>I3.k x.1.2.1 x.2.1 x.2.2.1
theorem I3.Kh:I3.Kc.Holds prog:=kh AJ (hc Ch.Kh hn) I3.ok (by kernel_rfl)
def GO.k (a b:Int) (k0:CK) (k1:CT):R2 Int CK CT:=
 (Ch.k a k0 k1).bind fun y2=>
 ci (y2.1.1=2) (BR 2 y2.2.1 y2.2.2.1)<|
 (Ch.k b y2.2.1 y2.2.2.1).bind fun y4=>
 ci (y4.1.1=2) (BR 2 y4.2.1 y4.2.2.1)<|
 BR 1 y4.2.1 y4.2.2.1
def GO.Kc:=kd 240 GO.p fun x=>GO.k x.1.2.1 x.1.2.2.1 x.2.1 x.2.2.1
theorem GO.Kh:GO.Kc.Holds prog:=kh AJ (hc Ch.Kh hn) GO.ok (by kernel_rfl)
def BQ.k (kind a b d n:Int) (text:List UInt8) (k0:CK) (k1:CT):R2 Int CK CT:=
 ck (Cj none (room 80 (k0.nodes.length+(Dop.Aa.mk kind a b d (-1) text n 0 0::[]).length)))<|
 ck (Av (I (k0.nodes++Dop.Aa.mk kind a b d (-1) text n 0 0::[]).length -1))<|
 BR (I (k0.nodes++Dop.Aa.mk kind a b d (-1) text n 0 0::[]).length -1) (CK.Ei k0 (k0.nodes++Dop.Aa.mk kind a b d (-1) text n 0 0::[])) k1
def BQ.Kc:=kd 132 BQ.p fun x=>BQ.k x.1.2.1 x.1.2.2.1 x.1.2.2.2.1 x.1.2.2.2.2.1 x.1.2.2.2.2.2.1 x.1.2.2.2.2.2.2.1 x.2.1 x.2.2.1
theorem BQ.Kh:BQ.Kc.Holds prog:=kh AJ hn BQ.ok (by kernel_rfl)
def Hh.k (n:Int):Gh Int:=
 let A1:=IntKind.i32.wrap (IntKind.u32.wrap n)
 ck (Av A1)<|
 Fx A1
def Hh.Kc:=kd 126 Hh.p fun x=>Hh.k x.1.1
theorem Hh.Kh:Hh.Kc.Holds prog:=kh AJ hn Hh.ok (by kernel_rfl)
def EP.k (n:Int) (k0:CK) (k1:CT):R2 Int CK CT:=
 (Hh.k n).bind fun y2=>
 (BQ.k 1 ((-1)) ((-1)) ((-1)) y2.1.1 [] k0 k1).bind Bp
def EP.Kc:=kd 165 EP.p fun x=>EP.k x.1.2.1 x.2.1 x.2.2.1
theorem EP.Kh:EP.Kc.Holds prog:=kh AJ (hc Hh.Kh (hc BQ.Kh hn)) EP.ok (by kernel_rfl)
def Dy.k (n:Int) (k0:CK) (k1:CT):R2 Int CK CT:=
 (BQ.k 2 ((-1)) ((-1)) ((-1)) n [] k0 k1).bind Bp
def Dy.Kc:=kd 134 Dy.p fun x=>Dy.k x.1.2.1 x.2.1 x.2.2.1
theorem Dy.Kh:Dy.Kc.Holds prog:=kh AJ (hc BQ.Kh hn) Dy.ok (by kernel_rfl)
def IC.k (n:Int) (k0:CK) (k1:CT):R2 Int CK CT:=
 let A1:=k0.f.BH+(1:Int) -1
 ci (k0.f.BH=4096) ((Ac.k 4 n k0 k1).bind fun y3=>
 BR 0 y3.2.1 y3.2.2.1)<|
 ck (Av (k0.f.BH+1))<|
 ck (Av A1)<|
 BR A1 (CK.Ws k0 (Dop.Db.mk k0.f.name k0.f.params (k0.f.BH+1) k0.f.frame k0.f.body)) k1
def IC.Kc:=kd 164 IC.p fun x=>IC.k x.1.2.1 x.2.1 x.2.2.1
theorem IC.Kh:IC.Kc.Holds prog:=kh AJ (hc Ac.Kh hn) IC.ok (by kernel_rfl)
def IG.k (t:Int) (k0:CK) (k1:CT):R2 Int CK CT:=
 (IA.k t k1).bind fun y2=>
 BR y2.1.1 k0 y2.2.1
def IG.Kc:=kd 238 IG.p fun x=>IG.k x.1.2.1 x.2.1 x.2.2.1
theorem IG.Kh:IG.Kc.Holds prog:=kh AJ (hc IA.Kh hn) IG.ok (by kernel_rfl)
def Jk.k (a:Int) (k0:CK) (k1:CT):R2 Int CK CT:=
 (BQ.k 4 a ((-1)) ((-1)) 0 [] k0 k1).bind Bp
def Jk.Kc:=kd 239 Jk.p fun x=>Jk.k x.1.2.1 x.2.1 x.2.2.1
theorem Jk.Kh:Jk.Kc.Holds prog:=kh AJ (hc BQ.Kh hn) Jk.ok (by kernel_rfl)
def Hj.k (a t:Int) (k0:CK) (k1:CT):R2 Dop.AZ CK CT:=
 (Ch.k t k0 k1).bind fun y2=>
 ci (y2.1.1=5) ((Fc.k t y2.2.1 y2.2.2.1).bind fun y4=>
 (IG.k y4.1.1 y4.2.1 y4.2.2.1).bind fun y5=>
 BR (Dop.AZ.mk a y5.1.1 0 0 false) y5.2.1 y5.2.2.1)<|
 ci (y2.1.1=6) (BR (Dop.AZ.mk a t 2 a false) y2.2.1 y2.2.2.1)<|
 (Jk.k a y2.2.1 y2.2.2.1).bind fun y5=>
 BR (Dop.AZ.mk y5.1.1 t 2 a false) y5.2.1 y5.2.2.1
def Hj.Kc:=kd 217 Hj.p fun x=>Hj.k x.1.2.1 x.1.2.2.1 x.2.1 x.2.2.1
theorem Hj.Kh:Hj.Kc.Holds prog:=kh AJ (hc Ch.Kh (hc Fc.Kh (hc IG.Kh (hc Jk.Kh hn)))) Hj.ok (by kernel_rfl)
def FE.k (p:Dop.B3) (k0:CK) (k1:CT):R2 Int CK CT:=
 ci (p.kind=3) ((BQ.k 3 ((-1)) ((-1)) ((-1)) p.n [] k0 k1).bind Bp)<|
 (EP.k p.n k0 k1).bind Bp
def FE.Kc:=kd 133 FE.p fun x=>FE.k x.1.2.1 x.2.1 x.2.2.1
theorem FE.Kh:FE.Kc.Holds prog:=kh AJ (hc BQ.Kh (hc EP.Kh hn)) FE.ok (by kernel_rfl)
def G7.k (op a:Int) (k0:CK) (k1:CT):R2 Int CK CT:=
 (BQ.k 7 a ((-1)) ((-1)) op [] k0 k1).bind Bp
def G7.Kc:=kd 229 G7.p fun x=>G7.k x.1.2.1 x.1.2.2.1 x.2.1 x.2.2.1
theorem G7.Kh:G7.Kc.Holds prog:=kh AJ (hc BQ.Kh hn) G7.ok (by kernel_rfl)
def G8.k (r a:Int) (k0:CK) (k1:CT):R2 Int CK CT:=
 (BQ.k 6 a ((-1)) ((-1)) r [] k0 k1).bind Bp
def G8.Kc:=kd 230 G8.p fun x=>G8.k x.1.2.1 x.1.2.2.1 x.2.1 x.2.2.1
theorem G8.Kh:G8.Kc.Holds prog:=kh AJ (hc BQ.Kh hn) G8.ok (by kernel_rfl)
def Bi.k (kind a b d e n:Int) (text:List UInt8) (k0:CK) (k1:CT):R2 Int CK CT:=
 ck (Cj none (room 80 (k0.nodes.length+(Dop.Aa.mk kind a b d e text n 0 0::[]).length)))<|
 ck (Av (I (k0.nodes++Dop.Aa.mk kind a b d e text n 0 0::[]).length -1))<|
 BR (I (k0.nodes++Dop.Aa.mk kind a b d e text n 0 0::[]).length -1) (CK.Ei k0 (k0.nodes++Dop.Aa.mk kind a b d e text n 0 0::[])) k1
def Bi.Kc:=kd 131 Bi.p fun x=>Bi.k x.1.2.1 x.1.2.2.1 x.1.2.2.2.1 x.1.2.2.2.2.1 x.1.2.2.2.2.2.1 x.1.2.2.2.2.2.2.1 x.1.2.2.2.2.2.2.2.1 x.2.1 x.2.2.1
theorem Bi.Kh:Bi.Kc.Holds prog:=kh AJ hn Bi.ok (by kernel_rfl)
abbrev OI.T:Type:=Int→Int→Bool→Int→Int→Bool→CK→CT→Dop.AZ→R2 Int CK CT
abbrev Ku.T:Type:=Int→Int→Int→Bool→CK→CT→Dop.AZ→R2 Int CK CT
abbrev BE.KT:Type:=OI.T×Ku.T×Unit
def OI.kB (tK:BE.KT):OI.T:=fun t2 t3 t4 t11 t12 t13 k0 k1 b2=>
 ci (t12=4) ((Dc.k b2.At k0 k1).bind fun y3=>
 let z1:R2 Int CK CT:=
 (DL.k b2.At y3.2.2.1).bind fun y6=>
 ci y6.1.1 ((DL.k t2 y6.2.1).bind fun y8=>
 tK.2.1 t3 t11 t12 y8.1.1 y3.2.1 y8.2.1 b2)<|
 tK.2.1 t3 t11 t12 false y3.2.1 y6.2.1 b2
 ci y3.1.1 (ci t4 (z1)<|
 tK.2.1 t3 t11 t12 b2.zero y3.2.1 y3.2.2.1 b2)<|
 ci t4 (z1)<|
 tK.2.1 t3 t11 t12 t13 y3.2.1 y3.2.2.1 b2)<|
 ci t4 ((DL.k b2.At k1).bind fun y4=>
 ci y4.1.1 ((DL.k t2 y4.2.1).bind fun y6=>
 tK.2.1 t3 t11 t12 y6.1.1 k0 y6.2.1 b2)<|
 tK.2.1 t3 t11 t12 false k0 y4.2.1 b2)<|
 tK.2.1 t3 t11 t12 t13 k0 k1 b2
def Ku.kB (tK:BE.KT):Ku.T:=fun t3 t11 t12 t13 k0 k1 b2=>
 ci (!t13) ((Ac.k 8 t3 k0 k1).bind fun y3=>
 BR y3.1.1.n y3.2.1 y3.2.2.1)<|
 ci (t12=3) (ci (!(t11=3)) ((G7.k 22 b2.n k0 k1).bind Bp)<|
 BR b2.n k0 k1)<|
 BR b2.n k0 k1
def BE.kS (tK:BE.KT):BE.KT:=(OI.kB tK,Ku.kB tK,())
def BE.kL (n:Nat):BE.KT:=Eu BE.kS n
def BE.k0 (tK:BE.KT) (t1:Dop.AZ) (t2 t3:Int) (t4:Bool) (k0:CK) (k1:CT):R2 Int CK CT:=
 (Ch.k t1.At k0 k1).bind fun y2=>
 (Ch.k t2 y2.2.1 y2.2.2.1).bind fun y3=>
 (Dc.k t1.At y3.2.1 y3.2.2.1).bind fun y4=>
 ci y4.1.1 ((Dc.k t2 y4.2.1 y4.2.2.1).bind fun y6=>
 ci (y2.1.1=4) (ci (y3.1.1=4) ((Fc.k t1.At y6.2.1 y6.2.2.1).bind fun y9=>
 (Fc.k t2 y9.2.1 y9.2.2.1).bind fun y10=>
 ci (t1.At=t2) (tK.1 t2 t3 t4 y2.1.1 y3.1.1 true y10.2.1 y10.2.2.1 t1)<|
 ci (y9.1.1=0) (tK.1 t2 t3 t4 y2.1.1 y3.1.1 true y10.2.1 y10.2.2.1 t1)<|
 tK.1 t2 t3 t4 y2.1.1 y3.1.1 (decide (y10.1.1=0)) y10.2.1 y10.2.2.1 t1)<|
 tK.1 t2 t3 t4 y2.1.1 y3.1.1 y6.1.1 y6.2.1 y6.2.2.1 t1)<|
 tK.1 t2 t3 t4 y2.1.1 y3.1.1 y6.1.1 y6.2.1 y6.2.2.1 t1)<|
 ci (y2.1.1=4) (ci (y3.1.1=4) ((Fc.k t1.At y4.2.1 y4.2.2.1).bind fun y8=>
 (Fc.k t2 y8.2.1 y8.2.2.1).bind fun y9=>
 ci (t1.At=t2) (tK.1 t2 t3 t4 y2.1.1 y3.1.1 true y9.2.1 y9.2.2.1 t1)<|
 ci (y8.1.1=0) (tK.1 t2 t3 t4 y2.1.1 y3.1.1 true y9.2.1 y9.2.2.1 t1)<|
 tK.1 t2 t3 t4 y2.1.1 y3.1.1 (decide (y9.1.1=0)) y9.2.1 y9.2.2.1 t1)<|
 tK.1 t2 t3 t4 y2.1.1 y3.1.1 false y4.2.1 y4.2.2.1 t1)<|
 tK.1 t2 t3 t4 y2.1.1 y3.1.1 false y4.2.1 y4.2.2.1 t1
def BE.k (t1:Dop.AZ) (t2 t3:Int) (t4:Bool) (k0:CK) (k1:CT):R2 Int CK CT:=BE.k0 (BE.kL 1000000) t1 t2 t3 t4 k0 k1
def BE.Kc:=kd 195 BE.p fun x=>BE.k x.1.2.1 x.1.2.2.1 x.1.2.2.2.1 x.1.2.2.2.2.1 x.2.1 x.2.2.1
theorem BE.Kh:BE.Kc.Holds prog:=GG AJ (hc Ch.Kh (hc Dc.Kh (hc Fc.Kh (hc DL.Kh (hc Ac.Kh (hc G7.Kh hn)))))) BE.ok (fun t x=>BE.k0 t x.1.2.1 x.1.2.2.1 x.1.2.2.2.1 x.1.2.2.2.2.1 x.2.1 x.2.2.1) (fun c=>(fun t2 t3 t4 t11 t12 t13 k0 k1 b2=>c 7 BE.q7 rfl (((),t2,t3,t4,(),t11,t12,t13,()),(k0,k1,(b2,()),())),fun t3 t11 t12 t13 k0 k1 b2=>c 11 BE.ZD rfl (((),t3,(),t11,t12,t13,()),(k0,k1,(b2,()),())),())) BE.kS (by kernel_rfl)
def Cd.k (op a b:Int) (k0:CK) (k1:CT):R2 Int CK CT:=
 (BQ.k 8 a b ((-1)) op [] k0 k1).bind Bp
def Cd.Kc:=kd 243 Cd.p fun x=>Cd.k x.1.2.1 x.1.2.2.1 x.1.2.2.2.1 x.2.1 x.2.2.1
theorem Cd.Kh:Cd.Kc.Holds prog:=kh AJ (hc BQ.Kh hn) Cd.ok (by kernel_rfl)
def Fv.k (n size:Int) (k0:CK) (k1:CT):R2 Int CK CT:=
 ci (size=1) (BR n k0 k1)<|
 (EP.k size k0 k1).bind fun y3=>
 (Cd.k 3 n y3.1.1 y3.2.1 y3.2.2.1).bind Bp
def Fv.Kc:=kd 244 Fv.p fun x=>Fv.k x.1.2.1 x.1.2.2.1 x.2.1 x.2.2.1
theorem Fv.Kh:Fv.Kc.Holds prog:=kh AJ (hc EP.Kh (hc Cd.Kh hn)) Fv.ok (by kernel_rfl)
abbrev OC.T:Type:=Int→Int→Int→CK→CT→R2 Int CK CT
abbrev Kf.T:Type:=Int→Int→Int→Int→Int→CK→CT→R2 Int CK CT
abbrev C0.KT:Type:=OC.T×Kf.T×Unit
def OC.kB (tK:C0.KT):OC.T:=fun t1 t2 t7 k0 k1=>
 let A1:=List.getD k0.t.types t7.toNat Dop.d6
 let A2:=List.getD k0.num A1.elem.toNat 0
 let z1:R2 Int CK CT:=
 ck (0≤t1∧t1<I k0.num.length)<|
 ck (t1.toNat<k0.num.length)<|
 BR (List.getD k0.num t1.toNat 0) k0 k1
 ci (t7≤t1) (ci (t7<I k0.t.types.length) (ck (0≤t7∧t7<I k0.t.types.length)<|
 ci (A1.kind=4) (ck (0≤A1.elem∧A1.elem<I k0.num.length)<|
 ck (A1.elem.toNat<k0.num.length)<|
 (IA.k A2 k1).bind fun y5=>
 tK.2.1 t1 t2 t7 y5.1.1 y5.1.2.1 k0 y5.2.1)<|
 ci (A1.kind=5) (ck (0≤A1.elem∧A1.elem<I k0.num.length)<|
 ck (A1.elem.toNat<k0.num.length)<|
 (Ji.k A2 (A1.n) k1).bind fun y6=>
 tK.2.1 t1 t2 t7 y6.1.1 y6.1.2.1 k0 y6.2.1)<|
 ci (A1.kind=6) ((IB.k (A1.name) k1).bind fun y7=>
 tK.2.1 t1 t2 t7 y7.1.1 y7.1.2.1 k0 y7.2.1)<|
 tK.2.1 t1 t2 t7 t7 0 k0 k1)<|
 z1)<|
 z1
def Kf.kB (tK:C0.KT):Kf.T:=fun t1 t2 t7 t9 t10 k0 k1=>
 ci (!(t10=0)) ((Ac.k t10 t2 k0 k1).bind fun y3=>
 BR 1 y3.2.1 y3.2.2.1)<|
 ck (Cj none (room 8 (k0.num.length+(t9::[]).length)))<|
 ck (Av (t7+1))<|
 tK.1 t1 t2 (t7+1) ((CK.MQ k0 (k0.num++t9::[]))) k1
def C0.kS (tK:C0.KT):C0.KT:=(OC.kB tK,Kf.kB tK,())
def C0.kL (n:Nat):C0.KT:=Eu C0.kS n
def C0.k0 (tK:C0.KT) (t1 t2:Int) (k0:CK) (k1:CT):R2 Int CK CT:=
 tK.1 t1 t2 (I k0.num.length) k0 k1
def C0.k (t1 t2:Int) (k0:CK) (k1:CT):R2 Int CK CT:=C0.k0 (C0.kL 1000000) t1 t2 k0 k1
def C0.Kc:=kd 121 C0.p fun x=>C0.k x.1.2.1 x.1.2.2.1 x.2.1 x.2.2.1
theorem C0.Kh:C0.Kc.Holds prog:=GG AJ (hc IA.Kh (hc Ji.Kh (hc IB.Kh (hc Ac.Kh hn)))) C0.ok (fun t x=>C0.k0 t x.1.2.1 x.1.2.2.1 x.2.1 x.2.2.1) (fun c=>(fun t1 t2 t7 k0 k1=>c 2 C0.q2 rfl (((),t1,t2,t7,()),(k0,k1,())),fun t1 t2 t7 t9 t10 k0 k1=>c 13 C0.WY rfl (((),t1,t2,t7,t9,t10,()),(k0,k1,())),())) C0.kS (by kernel_rfl)
def IF.k (v:Dop.AZ) (at_:Int) (k0:CK) (k1:CT):R2 Dop.AZ CK CT:=
 ci (!(k0.e=0)) ((Ac.k 8 at_ k0 k1).bind Bp)<|
 (Ch.k v.At k0 k1).bind fun y3=>
 ci (!(y3.1.1=4)) ((Ac.k 8 at_ y3.2.1 y3.2.2.1).bind Bp)<|
 (Fc.k v.At y3.2.1 y3.2.2.1).bind fun y5=>
 (BW.k y5.1.1 y5.2.2.1).bind fun y6=>
 ci (!y6.1.2.1) ((Ac.k 8 at_ y5.2.1 y6.2.1).bind Bp)<|
 (Hj.k v.n y5.1.1 y5.2.1 y6.2.1).bind Bp
def IF.Kc:=kd 225 IF.p fun x=>IF.k x.1.2.1 x.1.2.2.1 x.2.1 x.2.2.1
theorem IF.Kh:IF.Kc.Holds prog:=kh AJ (hc Ch.Kh (hc Ac.Kh (hc Fc.Kh (hc BW.J1 (hc Hj.Kh hn))))) IF.ok (by kernel_rfl)
abbrev Kz.T:Type:=Int→CK→CT→Dop.AZ→Dop.AZ→Dop.AZ→Dop.AZ→R2 Dop.AZ CK CT
abbrev Dz.KT:Type:=Kz.T×Unit
def Kz.kB (tK:Dz.KT):Kz.T:=fun t11 k0 k1 b2 b3 b4 b5=>
 (BQ.k 9 b2.n b3.n b4.n 0 [] k0 k1).bind fun y2=>
 BR (Dop.AZ.mk y2.1.1 t11 0 0 false) y2.2.1 y2.2.2.1
def Dz.kS (tK:Dz.KT):Dz.KT:=(Kz.kB tK,())
def Dz.kL (n:Nat):Dz.KT:=Eu Dz.kS n
def Dz.k0 (tK:Dz.KT) (t1 t2 t3:Dop.AZ) (t4:Int) (k0:CK) (k1:CT):R2 Dop.AZ CK CT:=
 let A1:=Dop.AZ.mk 0 0 0 0 false
 ci (!(k0.e=0)) (BR (Dop.AZ.mk (-1) 1 0 0 false) k0 k1)<|
 (Dc.k t2.At k0 k1).bind fun y3=>
 ci y3.1.1 ((Dc.k t3.At y3.2.1 y3.2.2.1).bind fun y5=>
 ci y5.1.1 ((GO.k t2.At t3.At y5.2.1 y5.2.2.1).bind fun y7=>
 tK.1 y7.1.1 y7.2.1 y7.2.2.1 t1 t2 t3 A1)<|
 ci (t2.At=t3.At) (tK.1 t2.At y5.2.1 y5.2.2.1 t1 t2 t3 A1)<|
 (Ch.k t3.At y5.2.1 y5.2.2.1).bind fun y8=>
 ci (y8.1.1=4) (ci t2.zero (tK.1 t3.At y8.2.1 y8.2.2.1 t1 t2 t3 A1)<|
 (Ch.k t2.At y8.2.1 y8.2.2.1).bind fun y11=>
 ci (y11.1.1=4) (ci t3.zero (tK.1 t2.At y11.2.1 y11.2.2.1 t1 t2 t3 A1)<|
 (Ac.k 8 t4 y11.2.1 y11.2.2.1).bind Bp)<|
 (Ac.k 8 t4 y11.2.1 y11.2.2.1).bind Bp)<|
 (Ch.k t2.At y8.2.1 y8.2.2.1).bind fun y10=>
 ci (y10.1.1=4) (ci t3.zero (tK.1 t2.At y10.2.1 y10.2.2.1 t1 t2 t3 A1)<|
 (Ac.k 8 t4 y10.2.1 y10.2.2.1).bind Bp)<|
 (Ac.k 8 t4 y10.2.1 y10.2.2.1).bind Bp)<|
 ci (t2.At=t3.At) (tK.1 t2.At y3.2.1 y3.2.2.1 t1 t2 t3 A1)<|
 (Ch.k t3.At y3.2.1 y3.2.2.1).bind fun y6=>
 ci (y6.1.1=4) (ci t2.zero (tK.1 t3.At y6.2.1 y6.2.2.1 t1 t2 t3 A1)<|
 (Ch.k t2.At y6.2.1 y6.2.2.1).bind fun y9=>
 ci (y9.1.1=4) (ci t3.zero (tK.1 t2.At y9.2.1 y9.2.2.1 t1 t2 t3 A1)<|
 (Ac.k 8 t4 y9.2.1 y9.2.2.1).bind Bp)<|
 (Ac.k 8 t4 y9.2.1 y9.2.2.1).bind Bp)<|
 (Ch.k t2.At y6.2.1 y6.2.2.1).bind fun y8=>
 ci (y8.1.1=4) (ci t3.zero (tK.1 t2.At y8.2.1 y8.2.2.1 t1 t2 t3 A1)<|
 (Ac.k 8 t4 y8.2.1 y8.2.2.1).bind Bp)<|
 (Ac.k 8 t4 y8.2.1 y8.2.2.1).bind Bp
def Dz.k (t1 t2 t3:Dop.AZ) (t4:Int) (k0:CK) (k1:CT):R2 Dop.AZ CK CT:=Dz.k0 (Dz.kL 1000000) t1 t2 t3 t4 k0 k1
def Dz.Kc:=kd 224 Dz.p fun x=>Dz.k x.1.2.1 x.1.2.2.1 x.1.2.2.2.1 x.1.2.2.2.2.1 x.2.1 x.2.2.1
theorem Dz.Kh:Dz.Kc.Holds prog:=GG AJ (hc Dc.Kh (hc GO.Kh (hc Ch.Kh (hc Ac.Kh (hc BQ.Kh hn))))) Dz.ok (fun t x=>Dz.k0 t x.1.2.1 x.1.2.2.1 x.1.2.2.2.1 x.1.2.2.2.2.1 x.2.1 x.2.2.1) (fun c=>(fun t11 k0 k1 b2 b3 b4 b5=>c 11 Dz.ZD rfl (((),(),(),(),(),t11,()),(k0,k1,(b2,()),(b3,()),(b4,()),(b5,()),())),())) Dz.kS (by kernel_rfl)
def EG.k (ahead n:Int) (k0:CK) (k1:CT):R2 Int CK CT:=
 ci (ahead<0) (BR n k0 k1)<|
 (BQ.k 15 ahead n ((-1)) 0 [] k0 k1).bind Bp
def EG.Kc:=kd 246 EG.p fun x=>EG.k x.1.2.1 x.1.2.2.1 x.2.1 x.2.2.1
theorem EG.Kh:EG.Kc.Holds prog:=kh AJ (hc BQ.Kh hn) EG.ok (by kernel_rfl)
def DS.k (l:Dop.AZ) (n:Int) (k0:CK) (k1:CT):R2 Int CK CT:=
 ci (l.left=1) ((G8.k l.at_ n k0 k1).bind Bp)<|
 (BQ.k 5 l.at_ n ((-1)) 0 [] k0 k1).bind Bp
def DS.Kc:=kd 196 DS.p fun x=>DS.k x.1.2.1 x.1.2.2.1 x.2.1 x.2.2.1
theorem DS.Kh:DS.Kc.Holds prog:=kh AJ (hc G8.Kh (hc BQ.Kh hn)) DS.ok (by kernel_rfl)
def Lw.k :Gh (List (List UInt8×Dop.KW)):=
 Fx (BF (BF (BF (BF (BF (BF (BF (BF (BF (BF (BF (BF (BF (BF (BF (BF (([]:List (List UInt8×Dop.KW))) ([43]:List UInt8) (Dop.KW.mk 1 1)) ([45]:List UInt8) (Dop.KW.mk 2 2)) ([42]:List UInt8) (Dop.KW.mk 3 3)) ([47]:List UInt8) (Dop.KW.mk 4 6)) ([37]:List UInt8) (Dop.KW.mk 5 7)) ([38]:List UInt8) (Dop.KW.mk 8 8)) ([124]:List UInt8) (Dop.KW.mk 9 9)) ([94]:List UInt8) (Dop.KW.mk 10 10)) ([60,60]:List UInt8) (Dop.KW.mk 11 11)) ([62,62]:List UInt8) (Dop.KW.mk 12 13)) ([61,61]:List UInt8) (Dop.KW.mk 14 14)) ([33,61]:List UInt8) (Dop.KW.mk 15 15)) ([60]:List UInt8) (Dop.KW.mk 16 18)) ([60,61]:List UInt8) (Dop.KW.mk 17 19)) ([62]:List UInt8) (Dop.KW.mk 16 18)) ([62,61]:List UInt8) (Dop.KW.mk 17 19))
def Lw.Kc:=kd 241 Lw.p fun x=>Lw.k
theorem Lw.Kh:Lw.Kc.Holds prog:=kh AJ hn Lw.ok (by kernel_rfl)
def Jl.k (l:Dop.AZ) (at_:Int) (k0:CK) (k1:CT):c6 Int Dop.AZ CK CT:=
 ci (!(l.left=2)) (Mf (-1) l k0 k1)<|
 (IC.k at_ k0 k1).bind fun y3=>
 (G8.k y3.1.1 l.at_ y3.2.1 y3.2.2.1).bind fun y4=>
 (Dy.k y3.1.1 y4.2.1 y4.2.2.1).bind fun y5=>
 (Dy.k y3.1.1 y5.2.1 y5.2.2.1).bind fun y6=>
 (Jk.k y6.1.1 y6.2.1 y6.2.2.1).bind fun y7=>
 Mf y4.1.1 (Dop.AZ.mk y7.1.1 l.At 2 y5.1.1 false) y7.2.1 y7.2.2.1
def Jl.Kc:=kd 245 Jl.p fun x=>Jl.k x.1.2.1 x.1.2.2.1 x.2.1 x.2.2.1
theorem Jl.Kh:Jl.Kc.Holds prog:=kh AJ (hc IC.Kh (hc G8.Kh (hc Dy.Kh (hc Jk.Kh hn)))) Jl.ok (by kernel_rfl)
abbrev OJ.T:Type:=List UInt8→Int→Bool→Bool→CK→CT→Dop.AZ→Dop.AZ→Dop.AZ→R2 Dop.AZ CK CT
abbrev Kv.T:Type:=List UInt8→Int→Bool→Bool→Bool→Int→CK→CT→Dop.AZ→Dop.AZ→Dop.AZ→Dop.KW→R2 Dop.AZ CK CT
abbrev Kw.T:Type:=List UInt8→Int→CK→CT→Dop.AZ→Dop.AZ→Dop.AZ→Dop.KW→R2 Dop.AZ CK CT
abbrev Kx.T:Type:=List UInt8→Int→Bool→Bool→Int→CK→CT→Dop.AZ→Dop.AZ→Dop.AZ→Dop.KW→R2 Dop.AZ CK CT
abbrev Ky.T:Type:=List UInt8→Int→Int→CK→CT→Dop.AZ→Dop.AZ→Dop.AZ→Dop.KW→R2 Dop.AZ CK CT
abbrev Be.KT:Type:=OJ.T×Kv.T×Kw.T×Kx.T×Ky.T×Unit
def OJ.kB (tK:Be.KT):OJ.T:=fun t1 t4 t11 t12 k0 k1 b2 b3 b4=>
 (Lw.k).bind fun y2=>
 ck (([32]:List UInt8).length+t1.length≤9223372036854775807)<|
 ck (((32:UInt8)::[]++t1).length+([32]:List UInt8).length≤9223372036854775807)<|
 ck (P2 ([32,61,61,32,33,61,32,60,32,60,61,32,62,32,62,61,32]:List UInt8))<|
 (I3.k b2.At k0 k1).bind fun y3=>
 ci y3.1.1 (ci (!(t1=(62:UInt8)::(62:UInt8)::[])) (tK.2.1 t1 t4 t11 t12 (Lib.contains ([32,61,61,32,33,61,32,60,32,60,61,32,62,32,62,61,32]:List UInt8) ((32:UInt8)::[]++t1++(32:UInt8)::[])) 1 y3.2.1 y3.2.2.1 b2 b3 b4 ((AL y2.1.1 t1).getD Dop.d14))<|
 (I3.k b2.At y3.2.1 y3.2.2.1).bind fun y6=>
 ci y6.1.1 (tK.2.1 t1 t4 t11 t12 (Lib.contains ([32,61,61,32,33,61,32,60,32,60,61,32,62,32,62,61,32]:List UInt8) ((32:UInt8)::[]++t1++(32:UInt8)::[])) 1 y6.2.1 y6.2.2.1 b2 b3 b4 ((AL y2.1.1 t1).getD Dop.d14))<|
 tK.2.1 t1 t4 t11 t12 (Lib.contains ([32,61,61,32,33,61,32,60,32,60,61,32,62,32,62,61,32]:List UInt8) ((32:UInt8)::[]++t1++(32:UInt8)::[])) 0 y6.2.1 y6.2.2.1 b2 b3 b4 ((AL y2.1.1 t1).getD Dop.d14))<|
 (I3.k b3.At y3.2.1 y3.2.2.1).bind fun y5=>
 ci y5.1.1 (ci (!(t1=(62:UInt8)::(62:UInt8)::[])) (tK.2.1 t1 t4 t11 t12 (Lib.contains ([32,61,61,32,33,61,32,60,32,60,61,32,62,32,62,61,32]:List UInt8) ((32:UInt8)::[]++t1++(32:UInt8)::[])) 1 y5.2.1 y5.2.2.1 b2 b3 b4 ((AL y2.1.1 t1).getD Dop.d14))<|
 (I3.k b2.At y5.2.1 y5.2.2.1).bind fun y8=>
 ci y8.1.1 (tK.2.1 t1 t4 t11 t12 (Lib.contains ([32,61,61,32,33,61,32,60,32,60,61,32,62,32,62,61,32]:List UInt8) ((32:UInt8)::[]++t1++(32:UInt8)::[])) 1 y8.2.1 y8.2.2.1 b2 b3 b4 ((AL y2.1.1 t1).getD Dop.d14))<|
 tK.2.1 t1 t4 t11 t12 (Lib.contains ([32,61,61,32,33,61,32,60,32,60,61,32,62,32,62,61,32]:List UInt8) ((32:UInt8)::[]++t1++(32:UInt8)::[])) 0 y8.2.1 y8.2.2.1 b2 b3 b4 ((AL y2.1.1 t1).getD Dop.d14))<|
 tK.2.1 t1 t4 t11 t12 (Lib.contains ([32,61,61,32,33,61,32,60,32,60,61,32,62,32,62,61,32]:List UInt8) ((32:UInt8)::[]++t1++(32:UInt8)::[])) 0 y5.2.1 y5.2.2.1 b2 b3 b4 ((AL y2.1.1 t1).getD Dop.d14)
def Kv.kB (tK:Be.KT):Kv.T:=fun t1 t4 t11 t12 t14 t16 k0 k1 b2 b3 b4 b5=>
 let A1:=(Ac.k 8 t4 k0 k1).bind Bp
 ci t14 (ci (!t11 == t12) (ci t11 (ci (!b3.zero) (ci t12 (ci (!b2.zero) A1<|
 ci t11 (ci t12 (ci (!(b2.At=b3.At)) A1<|
 tK.2.2.1 t1 t16 k0 k1 b2 b3 b4 b5)<|
 tK.2.2.1 t1 t16 k0 k1 b2 b3 b4 b5)<|
 tK.2.2.1 t1 t16 k0 k1 b2 b3 b4 b5)<|
 (Ac.k 8 t4 k0 k1).bind Bp)<|
 ci t11 (ci t12 (ci (!(b2.At=b3.At)) A1<|
 tK.2.2.1 t1 t16 k0 k1 b2 b3 b4 b5)<|
 tK.2.2.1 t1 t16 k0 k1 b2 b3 b4 b5)<|
 tK.2.2.1 t1 t16 k0 k1 b2 b3 b4 b5)<|
 ci t12 (ci (!b2.zero) A1<|
 ci t11 (ci t12 (ci (!(b2.At=b3.At)) A1<|
 tK.2.2.1 t1 t16 k0 k1 b2 b3 b4 b5)<|
 tK.2.2.1 t1 t16 k0 k1 b2 b3 b4 b5)<|
 tK.2.2.1 t1 t16 k0 k1 b2 b3 b4 b5)<|
 (Ac.k 8 t4 k0 k1).bind Bp)<|
 ci t11 (ci t12 (ci (!(b2.At=b3.At)) A1<|
 tK.2.2.1 t1 t16 k0 k1 b2 b3 b4 b5)<|
 tK.2.2.1 t1 t16 k0 k1 b2 b3 b4 b5)<|
 tK.2.2.1 t1 t16 k0 k1 b2 b3 b4 b5)<|
 tK.2.2.2.1 t1 t4 t11 t12 t16 k0 k1 b2 b3 b4 b5
def Kw.kB (tK:Be.KT):Kw.T:=fun t1 t16 k0 k1 b2 b3 b4 b5=>
 ci (t1=(62:UInt8)::[]) (ck (0≤t16∧t16<I 2)<|
 ck (t16.toNat<(b5.x0::b5.x1::[]).length)<|
 (Cd.k ((b5.x0::b5.x1::[]).getD t16.toNat 0) b3.n b2.n k0 k1).bind fun y3=>
 BR (Dop.AZ.mk y3.1.1 1 0 0 false) y3.2.1 y3.2.2.1)<|
 ci (t1=(62:UInt8)::(61:UInt8)::[]) (ck (0≤t16∧t16<I 2)<|
 ck (t16.toNat<(b5.x0::b5.x1::[]).length)<|
 (Cd.k ((b5.x0::b5.x1::[]).getD t16.toNat 0) b3.n b2.n k0 k1).bind fun y4=>
 BR (Dop.AZ.mk y4.1.1 1 0 0 false) y4.2.1 y4.2.2.1)<|
 ck (0≤t16∧t16<I 2)<|
 ck (t16.toNat<(b5.x0::b5.x1::[]).length)<|
 (Cd.k ((b5.x0::b5.x1::[]).getD t16.toNat 0) b2.n b3.n k0 k1).bind fun y4=>
 BR (Dop.AZ.mk y4.1.1 1 0 0 false) y4.2.1 y4.2.2.1
def Kx.kB (tK:Be.KT):Kx.T:=fun t1 t4 t11 t12 t16 k0 k1 b2 b3 b4 b5=>
 let A4:=GO.k b2.At b3.At k0 k1
 let A3:=Fc.k b3.At k0 k1
 let A2:=Fc.k b2.At k0 k1
 let A1:=(Ac.k 8 t4 k0 k1).bind Bp
 let z1:R2 Dop.AZ CK CT:=
 ci (!(t1=(43:UInt8)::[])) (ci (!(t1=(45:UInt8)::[])) A1<|
 ci t12 A1<|
 ci t11 (A2.bind fun y9=>
 ck ((0:Int)≤0∧0<I 2)<|
 (Fv.k b3.n y9.1.2.1 y9.2.1 y9.2.2.1).bind fun y10=>
 (Cd.k b5.x0 b2.n y10.1.1 y10.2.1 y10.2.2.1).bind fun y11=>
 BR (Dop.AZ.mk y11.1.1 b2.At 0 0 false) y11.2.1 y11.2.2.1)<|
 A3.bind fun y9=>
 ck ((0:Int)≤0∧0<I 2)<|
 (Fv.k b2.n y9.1.2.1 y9.2.1 y9.2.2.1).bind fun y10=>
 (Cd.k b5.x0 y10.1.1 b3.n y10.2.1 y10.2.2.1).bind fun y11=>
 BR (Dop.AZ.mk y11.1.1 b3.At 0 0 false) y11.2.1 y11.2.2.1)<|
 ci t11 (A2.bind fun y7=>
 ck ((0:Int)≤0∧0<I 2)<|
 (Fv.k b3.n y7.1.2.1 y7.2.1 y7.2.2.1).bind fun y8=>
 (Cd.k b5.x0 b2.n y8.1.1 y8.2.1 y8.2.2.1).bind fun y9=>
 BR (Dop.AZ.mk y9.1.1 b2.At 0 0 false) y9.2.1 y9.2.2.1)<|
 A3.bind fun y7=>
 ck ((0:Int)≤0∧0<I 2)<|
 (Fv.k b2.n y7.1.2.1 y7.2.1 y7.2.2.1).bind fun y8=>
 (Cd.k b5.x0 y8.1.1 b3.n y8.2.1 y8.2.2.1).bind fun y9=>
 BR (Dop.AZ.mk y9.1.1 b3.At 0 0 false) y9.2.1 y9.2.2.1
 let z2:R2 Dop.AZ CK CT:=
 ci t11 (A2.bind fun y8=>
 ck ((0:Int)≤0∧0<I 2)<|
 (Fv.k b3.n y8.1.2.1 y8.2.1 y8.2.2.1).bind fun y9=>
 (Cd.k b5.x0 b2.n y9.1.1 y9.2.1 y9.2.2.1).bind fun y10=>
 BR (Dop.AZ.mk y10.1.1 b2.At 0 0 false) y10.2.1 y10.2.2.1)<|
 A3.bind fun y8=>
 ck ((0:Int)≤0∧0<I 2)<|
 (Fv.k b2.n y8.1.2.1 y8.2.1 y8.2.2.1).bind fun y9=>
 (Cd.k b5.x0 y9.1.1 b3.n y9.2.1 y9.2.2.1).bind fun y10=>
 BR (Dop.AZ.mk y10.1.1 b3.At 0 0 false) y10.2.1 y10.2.2.1
 ci t11 (ci t12 (A2.bind fun y4=>
 ci (!(t1=(45:UInt8)::[])) ((Ac.k 8 t4 y4.2.1 y4.2.2.1).bind Bp)<|
 ci (!(b2.At=b3.At)) ((Ac.k 8 t4 y4.2.1 y4.2.2.1).bind Bp)<|
 (Cd.k 2 b2.n b3.n y4.2.1 y4.2.2.1).bind fun y7=>
 ci (y4.1.2.1=1) (BR (Dop.AZ.mk y7.1.1 1 0 0 false) y7.2.1 y7.2.2.1)<|
 (EP.k y4.1.2.1 y7.2.1 y7.2.2.1).bind fun y9=>
 (Cd.k 4 y7.1.1 y9.1.1 y9.2.1 y9.2.2.1).bind fun y10=>
 BR (Dop.AZ.mk y10.1.1 1 0 0 false) y10.2.1 y10.2.2.1)<|
 ci t11 (z1)<|
 ci t12 (ci (!(t1=(43:UInt8)::[])) (ci (!(t1=(45:UInt8)::[])) A1<|
 ci t12 A1<|
 ci t11 (A2.bind fun y10=>
 ck ((0:Int)≤0∧0<I 2)<|
 (Fv.k b3.n y10.1.2.1 y10.2.1 y10.2.2.1).bind fun y11=>
 (Cd.k b5.x0 b2.n y11.1.1 y11.2.1 y11.2.2.1).bind fun y12=>
 BR (Dop.AZ.mk y12.1.1 b2.At 0 0 false) y12.2.1 y12.2.2.1)<|
 A3.bind fun y10=>
 ck ((0:Int)≤0∧0<I 2)<|
 (Fv.k b2.n y10.1.2.1 y10.2.1 y10.2.2.1).bind fun y11=>
 (Cd.k b5.x0 y11.1.1 b3.n y11.2.1 y11.2.2.1).bind fun y12=>
 BR (Dop.AZ.mk y12.1.1 b3.At 0 0 false) y12.2.1 y12.2.2.1)<|
 z2)<|
 A4.bind fun y6=>
 tK.2.2.2.2.1 t1 t16 y6.1.1 y6.2.1 y6.2.2.1 b2 b3 b4 b5)<|
 ci t11 (ci (!(t1=(43:UInt8)::[])) (ci (!(t1=(45:UInt8)::[])) A1<|
 ci t12 A1<|
 z2)<|
 ci t11 (A2.bind fun y6=>
 ck ((0:Int)≤0∧0<I 2)<|
 (Fv.k b3.n y6.1.2.1 y6.2.1 y6.2.2.1).bind fun y7=>
 (Cd.k b5.x0 b2.n y7.1.1 y7.2.1 y7.2.2.1).bind fun y8=>
 BR (Dop.AZ.mk y8.1.1 b2.At 0 0 false) y8.2.1 y8.2.2.1)<|
 A3.bind fun y6=>
 ck ((0:Int)≤0∧0<I 2)<|
 (Fv.k b2.n y6.1.2.1 y6.2.1 y6.2.2.1).bind fun y7=>
 (Cd.k b5.x0 y7.1.1 b3.n y7.2.1 y7.2.2.1).bind fun y8=>
 BR (Dop.AZ.mk y8.1.1 b3.At 0 0 false) y8.2.1 y8.2.2.1)<|
 ci t12 (z1)<|
 A4.bind fun y5=>
 tK.2.2.2.2.1 t1 t16 y5.1.1 y5.2.1 y5.2.2.1 b2 b3 b4 b5
def Ky.kB (tK:Be.KT):Ky.T:=fun t1 t16 t24 k0 k1 b2 b3 b4 b5=>
 let A1:=GO.k b2.At b2.At k0 k1
 ci (t1=(60:UInt8)::(60:UInt8)::[]) (A1.bind fun y3=>
 ci (t1=(62:UInt8)::(62:UInt8)::[]) (ci (y3.1.1=2) (ck ((0:Int)≤1∧1<I 2)<|
 ck (Int.toNat 1<(b5.x0::b5.x1::[]).length)<|
 (Cd.k ((b5.x0::b5.x1::[]).getD (Int.toNat 1) 0) b2.n b3.n y3.2.1 y3.2.2.1).bind fun y6=>
 BR (Dop.AZ.mk y6.1.1 y3.1.1 0 0 false) y6.2.1 y6.2.2.1)<|
 ck (0≤t16∧t16<I 2)<|
 ck (t16.toNat<(b5.x0::b5.x1::[]).length)<|
 (Cd.k ((b5.x0::b5.x1::[]).getD t16.toNat 0) b2.n b3.n y3.2.1 y3.2.2.1).bind fun y6=>
 BR (Dop.AZ.mk y6.1.1 y3.1.1 0 0 false) y6.2.1 y6.2.2.1)<|
 ck (0≤t16∧t16<I 2)<|
 ck (t16.toNat<(b5.x0::b5.x1::[]).length)<|
 (Cd.k ((b5.x0::b5.x1::[]).getD t16.toNat 0) b2.n b3.n y3.2.1 y3.2.2.1).bind fun y5=>
 BR (Dop.AZ.mk y5.1.1 y3.1.1 0 0 false) y5.2.1 y5.2.2.1)<|
 ci (t1=(62:UInt8)::(62:UInt8)::[]) (A1.bind fun y4=>
 ci (t1=(62:UInt8)::(62:UInt8)::[]) (ci (y4.1.1=2) (ck ((0:Int)≤1∧1<I 2)<|
 ck (Int.toNat 1<(b5.x0::b5.x1::[]).length)<|
 (Cd.k ((b5.x0::b5.x1::[]).getD (Int.toNat 1) 0) b2.n b3.n y4.2.1 y4.2.2.1).bind fun y7=>
 BR (Dop.AZ.mk y7.1.1 y4.1.1 0 0 false) y7.2.1 y7.2.2.1)<|
 ck (0≤t16∧t16<I 2)<|
 ck (t16.toNat<(b5.x0::b5.x1::[]).length)<|
 (Cd.k ((b5.x0::b5.x1::[]).getD t16.toNat 0) b2.n b3.n y4.2.1 y4.2.2.1).bind fun y7=>
 BR (Dop.AZ.mk y7.1.1 y4.1.1 0 0 false) y7.2.1 y7.2.2.1)<|
 ck (0≤t16∧t16<I 2)<|
 ck (t16.toNat<(b5.x0::b5.x1::[]).length)<|
 (Cd.k ((b5.x0::b5.x1::[]).getD t16.toNat 0) b2.n b3.n y4.2.1 y4.2.2.1).bind fun y6=>
 BR (Dop.AZ.mk y6.1.1 y4.1.1 0 0 false) y6.2.1 y6.2.2.1)<|
 ci (t1=(62:UInt8)::(62:UInt8)::[]) (ci (t24=2) (ck ((0:Int)≤1∧1<I 2)<|
 ck (Int.toNat 1<(b5.x0::b5.x1::[]).length)<|
 (Cd.k ((b5.x0::b5.x1::[]).getD (Int.toNat 1) 0) b2.n b3.n k0 k1).bind fun y6=>
 BR (Dop.AZ.mk y6.1.1 t24 0 0 false) y6.2.1 y6.2.2.1)<|
 ck (0≤t16∧t16<I 2)<|
 ck (t16.toNat<(b5.x0::b5.x1::[]).length)<|
 (Cd.k ((b5.x0::b5.x1::[]).getD t16.toNat 0) b2.n b3.n k0 k1).bind fun y6=>
 BR (Dop.AZ.mk y6.1.1 t24 0 0 false) y6.2.1 y6.2.2.1)<|
 ck (0≤t16∧t16<I 2)<|
 ck (t16.toNat<(b5.x0::b5.x1::[]).length)<|
 (Cd.k ((b5.x0::b5.x1::[]).getD t16.toNat 0) b2.n b3.n k0 k1).bind fun y5=>
 BR (Dop.AZ.mk y5.1.1 t24 0 0 false) y5.2.1 y5.2.2.1
def Be.kS (tK:Be.KT):Be.KT:=(OJ.kB tK,Kv.kB tK,Kw.kB tK,Kx.kB tK,Ky.kB tK,())
def Be.kL (n:Nat):Be.KT:=Eu Be.kS n
def Be.k0 (tK:Be.KT) (t1:List UInt8) (t2 t3:Dop.AZ) (t4:Int) (k0:CK) (k1:CT):R2 Dop.AZ CK CT:=
 ci (!(k0.e=0)) (BR (Dop.AZ.mk (-1) 1 0 0 false) k0 k1)<|
 (Ch.k t2.At k0 k1).bind fun y3=>
 (Ch.k t3.At y3.2.1 y3.2.2.1).bind fun y4=>
 tK.1 t1 t4 (decide (y3.1.1=4)) (decide (y4.1.1=4)) y4.2.1 y4.2.2.1 t2 t3 (Dop.AZ.mk 0 0 0 0 false)
def Be.k (t1:List UInt8) (t2 t3:Dop.AZ) (t4:Int) (k0:CK) (k1:CT):R2 Dop.AZ CK CT:=Be.k0 (Be.kL 1000000) t1 t2 t3 t4 k0 k1
def Be.Kc:=kd 219 Be.p fun x=>Be.k x.1.2.1 x.1.2.2.1 x.1.2.2.2.1 x.1.2.2.2.2.1 x.2.1 x.2.2.1
theorem Be.Kh:Be.Kc.Holds prog:=GG AJ (hc Ch.Kh (hc Lw.Kh (hc contains.holds (hc I3.Kh (hc Ac.Kh (hc Cd.Kh (hc Fc.Kh (hc EP.Kh (hc Fv.Kh (hc GO.Kh hn)))))))))) Be.ok (fun t x=>Be.k0 t x.1.2.1 x.1.2.2.1 x.1.2.2.2.1 x.1.2.2.2.2.1 x.2.1 x.2.2.1) (fun c=>(fun t1 t4 t11 t12 k0 k1 b2 b3 b4=>c 4 Be.q4 rfl (((),t1,t4,(),(),(),t11,t12,()),(k0,k1,(b2,()),(b3,()),(b4,()),())),fun t1 t4 t11 t12 t14 t16 k0 k1 b2 b3 b4 b5=>c 10 Be.ZC rfl (((),t1,t4,(),(),(),t11,t12,(),t14,t16,()),(k0,k1,(b2,()),(b3,()),(b4,()),(b5,()),())),fun t1 t16 k0 k1 b2 b3 b4 b5=>c 13 Be.WY rfl (((),t1,(),(),(),(),t16,()),(k0,k1,(b2,()),(b3,()),(b4,()),(b5,()),())),fun t1 t4 t11 t12 t16 k0 k1 b2 b3 b4 b5=>c 16 Be.eT rfl (((),t1,t4,(),(),(),t11,t12,(),t16,()),(k0,k1,(b2,()),(b3,()),(b4,()),(b5,()),())),fun t1 t16 t24 k0 k1 b2 b3 b4 b5=>c 33 Be.iD rfl (((),t1,(),(),(),(),t16,t24,()),(k0,k1,(b2,()),(b3,()),(b4,()),(b5,()),())),())) Be.kS (by kernel_rfl)
end
end Go.Proofs.Tryz
