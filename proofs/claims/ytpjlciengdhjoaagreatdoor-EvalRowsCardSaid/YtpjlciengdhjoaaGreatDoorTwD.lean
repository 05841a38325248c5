/-
 Functions in plain words (what their equations say), and their contracts. Written by a program.
-/
import Derived.Test.YtpjlciengdhjoaaGreatDoorMr
import Derived.Test.YtpjlciengdhjoaaGreatDoorMj
set_option maxRecDepth 100000
set_option maxHeartbeats 4000000
namespace Go.Proofs.Tryz
open Go Go.En
noncomputable section
def Nb.k (k0:PS):R1 Int PS:=
 (Fw.k ([40]:List UInt8) k0).bind fun y3=>
 (C2.k y3.2.1).bind fun y2=>
 (Fw.k ([41]:List UInt8) y2.2.1).bind fun y1=>
 B7 y2.1.1 y1.2.1
def Nb.Kc:=kd 175 Nb.p fun x=>Nb.k x.2.1
theorem Nb.Kh:Nb.Kc.Holds prog:=kh AJ (hc Fw.Kh (hc C2.Hi hn)) Nb.ok (by kernel_rfl)
def KG.k (s:List UInt8) (k0:PS):R1 Int PS:=
 (Em.k s k0).bind fun y3=>
 ci y3.1.1 (B7 (-1) y3.2.1)<|
 (C2.k y3.2.1).bind fun y2=>
 (Fw.k s y2.2.1).bind fun y1=>
 B7 y2.1.1 y1.2.1
def KG.Kc:=kd 176 KG.p fun x=>KG.k x.1.2.1 x.2.1
theorem KG.Kh:KG.Kc.Holds prog:=kh AJ (hc Em.Kh (hc C2.Hi (hc Fw.Kh hn))) KG.ok (by kernel_rfl)
def Nc.k (k0:PS):R1 Bool PS:=
 (Ef.k k0).bind fun y1=>
 ci (y1.1.1.kind=1) (ck (Al (PS.at_ y1.2.1+1))<|
 ci (PS.at_ y1.2.1+1<I (PS.l y1.2.1).length) (ck (Al (PS.at_ y1.2.1+1))<|
 ck (0<=PS.at_ y1.2.1+1/\PS.at_ y1.2.1+1<I (PS.l y1.2.1).length)<|
 B7 (decide ((List.getD (PS.l y1.2.1) (PS.at_ y1.2.1+1).toNat Dop.d4).text=(58:UInt8)::[])) y1.2.1)<|
 B7 false y1.2.1)<|
 B7 false y1.2.1
def Nc.Kc:=kd 177 Nc.p fun x=>Nc.k x.2.1
theorem Nc.Kh:Nc.Kc.Holds prog:=kh AJ (hc Ef.Kh hn) Nc.ok (by kernel_rfl)
abbrev FE.kr (r:FY.T) (k0:PS):R1 Int PS:=r.1 (((),()),(k0,()))
abbrev Ga.kr (r:FY.T) (k0:PS):R1 Int PS:=r.2.1 (((),()),(k0,()))
abbrev BQ.kr (r:FY.T) (k0:PS):R1 Int PS:=r.2.2.1 (((),(),()),(k0,()))
abbrev Nk.T:Type:=List Int->PS->Dop.AV->R1 Int PS
abbrev FE.KT:Type:=Nk.T×Unit
def Nk.kB (rK:FY.T) (tK:FE.KT):Nk.T:=fun l k0 b1=>
 (Em.k ([125]:List UInt8) k0).bind fun y3=>
 let z1:R1 Int PS:=
 (B6.k l y3.2.1).bind fun y2=>
 (Dj.k (Dop.AV.mk b1.kind y2.1.1 b1.b b1.c b1.d b1.text b1.n b1.Cj b1.at_) y2.2.1).bind PF
 ci (!y3.1.1) (ci (PS.e y3.2.1=0) ((Ga.kr rK y3.2.1).bind fun y1=>
 ck (Dc none (room 8 (l.length+(y1.1.1::[]).length)))<|
 tK.1 (l++y1.1.1::[]) y1.2.1 b1)<|
 z1)<|
 z1
def FE.kS (rK:FY.T) (tK:FE.KT):FE.KT:=(Nk.kB rK tK,())
def FE.kL (rK:FY.T) (n:Nat):FE.KT:=Bd (FE.kS rK) n
def FE.k0 (rK:FY.T) (tK:FE.KT) (k0:PS):R1 Int PS:=
 (Ef.k k0).bind fun y3=>
 (FD.k 43 y3.1.1.at_).bind fun y2=>
 (Fw.k ([123]:List UInt8) y3.2.1).bind fun y1=>
 tK.1 [] y1.2.1 y2.1.1
def FE.kf (rK:FY.T) (k0:PS):R1 Int PS:=FE.k0 rK (FE.kL rK 1000000) k0
def Ga.kf (rK:FY.T) (k0:PS):R1 Int PS:=
 (BQ.kr rK k0).bind PF
def Ee.kf (rK:FY.T) (k0:PS):R1 Int PS:=(AU (S:=Dop.D4) prog 144 tb (FY.ct rK++[Ef.Kc,FD.Kc,Oi.Kc,Em.Kc,JW.Kc,DZ.Kc,Ma.Kc,Tn.Kc,C2.JE,Fw.Kc,Nb.Kc,KG.Kc,Nc.Kc,Dj.Kc]) Ee.p).Ei 3000 1000000 Ee.p.sp (((),()),(k0,()))
def FY.kS (r:FY.T):FY.T:=(fun x=>FE.kf r x.2.1,fun x=>Ga.kf r x.2.1,fun x=>within r.2.2.2.1 x.2.1,fun x=>Ee.kf r x.2.1,())
def FY.kR (n:Nat):FY.T:=Bd FY.kS n
def FE.Kc (n:Nat):=kd 86 FE.p (FY.kR n).1
def FE.JE:=FE.Kc FU
def FE.k:=FE.kr (FY.kR FU)
def Ga.Kc (n:Nat):=kd 119 Ga.p (FY.kR n).2.1
def BQ.Kc (n:Nat):=kd 143 BQ.p (FY.kR n).2.2.1
abbrev Ee.kq (n:Nat):((Unit×Unit)×(PS×Unit))->Option ((Int×Unit)×(PS×Unit)):=(FY.kR n).2.2.2.1
def Ee.Kc (n:Nat):=kd 144 Ee.p (FY.kR n).2.2.2.1
def FY.PY (n:Nat):List (BU Dop.D4):=[FE.Kc n,Ga.Kc n,BQ.Kc n,Ee.Kc n]
theorem FY.Dx: ∀ n,(FE.Kc n).Holds prog/\(Ga.Kc n).Holds prog/\(BQ.Kc n).Holds prog/\(Ee.Kc n).Holds prog/\True
 | 0=>⟨AR AJ FE.ok,AR AJ Ga.ok,AR AJ (by kernel_rfl),AR AJ Ee.ok,trivial⟩
 | n+1=>by
  obtain ⟨h0,h1,h2,h3,_⟩:=FY.Dx n
  have hh: ∀ c∈FY.PY n,c.Holds prog:=(hc h0 (hc h1 (hc h2 (hc h3 hn))))
  exact ⟨GB AJ (Ad hh (hc Ef.Kh (hc FD.Kh (hc Fw.Kh (hc Em.Kh (hc B6.Kh (hc Dj.Kh hn))))))) FE.ok (fun t x=>FE.k0 (FY.kR n) t x.2.1) (fun c=>(fun l k0 b1=>c 4 FE.q4 rfl (((),(),l,()),(k0,(b1,()),())),())) (FE.kS (FY.kR n)) (by kernel_rfl),
   kh AJ (Ad hh hn) Ga.ok (by kernel_rfl),
   (oQ.holds (m:=Ee.kq n) h3),
   kh AJ (Ad hh (hc Ef.Kh (hc FD.Kh (hc Oi.Kh (hc Em.Kh (hc JW.Kh (hc DZ.Kh (hc Ma.Kh (hc Tn.Kh (hc C2.Hi (hc Fw.Kh (hc Nb.Kh (hc KG.Kh (hc Nc.Kh (hc Dj.Kh hn))))))))))))))) Ee.ok (by kernel_rfl),
   trivial⟩
theorem FE.Hi:FE.JE.Holds prog:=(FY.Dx FU).1
def Oh.KE:Env Dop.D4:=AU prog 45 tb [Ef.Kc,FD.Kc,Oi.Kc,Fw.Kc,Ma.Kc,Em.Kc,Yi.Kc,Tn.Kc,Dj.Kc,B6.Kc,FE.JE] Oh.p
def Oh.k (k0:PS):R1 Int PS:=Oh.KE.Ei 3000 1000000 Oh.p.sp (((),()),(k0,()))
def Oh.Kc:=kd 45 Oh.p fun x=>Oh.k x.2.1
theorem Oh.Kh:Oh.Kc.Holds prog:=kh AJ (hc Ef.Kh (hc FD.Kh (hc Oi.Kh (hc Fw.Kh (hc Ma.Kh (hc Em.Kh (hc Yi.Kh (hc Tn.Kh (hc Dj.Kh (hc B6.Kh (hc FE.Hi hn))))))))))) Oh.ok (by kernel_rfl)
abbrev Uv.T:Type:=Int->List Dop.AV->List Dop.Fp->Int->PS->Ot Dop.HW Int Int
abbrev Nd.T:Type:=List Int->List Dop.AV->List Dop.Fp->Int->PS->Ot Dop.HW Int Int
abbrev m20.KT:Type:=Uv.T×Nd.T×Unit
def Uv.kB (tK:m20.KT):Uv.T:=fun t6 b0_0 b0_1 b0_2 k1=>
 ci (t6<=3) (ck (Dc none (room 40 (k1.types.length+(Dop.Fp.mk t6 0 0 []::[]).length)))<|
 ck (Al (t6+1))<|
 tK.1 (t6+1) b0_0 b0_1 b0_2 ((PS.VV k1 (k1.types++Dop.Fp.mk t6 0 0 []::[]))))<|
 tK.2.1 [] b0_0 b0_1 b0_2 k1
def Nd.kB (tK:m20.KT):Nd.T:=fun t7 b0_0 b0_1 b0_2 k1=>
 ci (k1.e=0) ((Ef.k k1).bind fun y2=>
 ci (!(y2.1.1.kind=0)) ((Oh.k y2.2.1).bind fun y1=>
 ck (Dc none (room 8 (t7.length+(y1.1.1::[]).length)))<|
 tK.2.1 (t7++y1.1.1::[]) b0_0 b0_1 b0_2 y1.2.1)<|
 (B6.k t7 y2.2.1).bind fun y1=>
 ci (!(PS.e y1.2.1=0)) (Kd (Dop.HW.mk [] [] 0) (PS.when y1.2.1) (PS.e y1.2.1))<|
 Kd (Dop.HW.mk (PS.nodes y1.2.1) (PS.types y1.2.1) y1.1.1) 0 0)<|
 (B6.k t7 k1).bind fun y1=>
 ci (!(PS.e y1.2.1=0)) (Kd (Dop.HW.mk [] [] 0) (PS.when y1.2.1) (PS.e y1.2.1))<|
 Kd (Dop.HW.mk (PS.nodes y1.2.1) (PS.types y1.2.1) y1.1.1) 0 0
def m20.kS (tK:m20.KT):m20.KT:=(Uv.kB tK,Nd.kB tK,())
def m20.kL (n:Nat):m20.KT:=Bd m20.kS n
def m20.k0 (tK:m20.KT) (o:List Dop.Tok):Ot Dop.HW Int Int:=
 tK.1 0 [] [] 0 ((o,0,[],[],0,0,0,0,()))
def m20.k (o:List Dop.Tok):Ot Dop.HW Int Int:=m20.k0 (m20.kL 1000000) o
def m20.Kc:=kd 29 m20.p fun x=>m20.k x.1.1
theorem m20.Kh:m20.Kc.Holds prog:=GB AJ (hc Ef.Kh (hc Oh.Kh (hc B6.Kh hn))) m20.ok (fun t x=>m20.k0 t x.1.1) (fun c=>(fun t6 b0_0 b0_1 b0_2 k1=>c 3 m20.q3 rfl (((),(),t6,()),((b0_0,b0_1,b0_2,()),k1,())),fun t7 b0_0 b0_1 b0_2 k1=>c 7 m20.q7 rfl (((),(),t7,()),((b0_0,b0_1,b0_2,()),k1,())),())) m20.kS (by kernel_rfl)
def V7.k (s:List UInt8):Ot Dop.HW Int Int:=
 (m19.k s).bind fun y2=>
 ci (!(y2.1.2.2.1=0)) (Kd (Dop.HW.mk [] [] 0) y2.1.2.1 y2.1.2.2.1)<|
 (m20.k y2.1.1).bind ox
def V7.Kc:=kd 16 V7.p fun x=>V7.k x.1.1
theorem V7.Kh:V7.Kc.Holds prog:=kh AJ (hc m19.Kh (hc m20.Kh hn)) V7.ok (by kernel_rfl)
end
end Go.Proofs.Tryz
