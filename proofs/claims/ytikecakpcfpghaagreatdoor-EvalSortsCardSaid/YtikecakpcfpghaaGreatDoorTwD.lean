/-
 Functions in plain words (what their equations say), and their contracts. Written by a program.
-/
import Derived.Test.YtikecakpcfpghaaGreatDoorMr
import Derived.Test.YtikecakpcfpghaaGreatDoorMj
set_option linter.all false
set_option maxRecDepth 100000
set_option maxHeartbeats 4000000
namespace Go.Proofs.Tryz
open Go Go.En
noncomputable section
def NI.k (k0:PS):R1 Int PS:=
 (GC.k ([40]:List UInt8) k0).bind fun y2=>
 (Dv.k y2.2.1).bind fun y3=>
 (GC.k ([41]:List UInt8) y3.2.1).bind fun y4=>
 Cn y3.1.1 y4.2.1
def NI.Kc:=kd 159 NI.p fun x=>NI.k x.2.1
theorem NI.Kh:NI.Kc.Holds prog:=kh AH (hc GC.Kh (hc Dv.Ie hn)) NI.ok (by kernel_rfl)
def NJ.k (s:List UInt8) (k0:PS):R1 Int PS:=
 (Ex.k s k0).bind fun y2=>
 ci y2.1.1 (Cn (-1) y2.2.1)<|
 (Dv.k y2.2.1).bind fun y4=>
 (GC.k s y4.2.1).bind fun y5=>
 Cn y4.1.1 y5.2.1
def NJ.Kc:=kd 160 NJ.p fun x=>NJ.k x.1.2.1 x.2.1
theorem NJ.Kh:NJ.Kc.Holds prog:=kh AH (hc Ex.Kh (hc Dv.Ie (hc GC.Kh hn))) NJ.ok (by kernel_rfl)
def NK.k (k0:PS):R1 Bool PS:=
 (Ei.k k0).bind fun y2=>
 ci (y2.1.1.kind=1) (ck (BD (PS.at_ y2.2.1+1))<|
 ci (PS.at_ y2.2.1+1<I (PS.l y2.2.1).length) (ck (BD (PS.at_ y2.2.1+1))<|
 ck (0<=PS.at_ y2.2.1+1/\PS.at_ y2.2.1+1<I (PS.l y2.2.1).length)<|
 Cn (decide ((List.getD (PS.l y2.2.1) (PS.at_ y2.2.1+1).toNat Dop.d4).text=(58:UInt8)::[])) y2.2.1)<|
 Cn false y2.2.1)<|
 Cn false y2.2.1
def NK.Kc:=kd 161 NK.p fun x=>NK.k x.2.1
theorem NK.Kh:NK.Kc.Holds prog:=kh AH (hc Ei.Kh hn) NK.ok (by kernel_rfl)
abbrev IZ.kr (r:JN.T) (k0:PS):R1 Int PS:=r.2.1 (((),()),(k0,()))
abbrev Bb.kr (r:JN.T) (k0:PS):R1 Int PS:=r.2.2.1 (((),(),()),(k0,()))
abbrev Uc.T:Type:=List Int->PS->Dop.AZ->R1 Int PS
abbrev HQ.KT:Type:=Uc.T×Unit
def Uc.kB (rK:JN.T) (tK:HQ.KT):Uc.T:=fun l k0 b1=>
 (Ex.k ([125]:List UInt8) k0).bind fun y2=>
 ci (!y2.1.1) (ci (PS.e y2.2.1=0) ((IZ.kr rK y2.2.1).bind fun y5=>
 ck (DK none (room 8 (l.length+(y5.1.1::[]).length)))<|
 tK.1 (l++y5.1.1::[]) y5.2.1 b1)<|
 (Bt.k l y2.2.1).bind fun y5=>
 (EJ.k (Dop.AZ.mk b1.kind y5.1.1 b1.b b1.c b1.d b1.text b1.n b1.CC b1.at_) y5.2.1).bind MB)<|
 (Bt.k l y2.2.1).bind fun y4=>
 (EJ.k (Dop.AZ.mk b1.kind y4.1.1 b1.b b1.c b1.d b1.text b1.n b1.CC b1.at_) y4.2.1).bind MB
def HQ.kS (rK:JN.T) (tK:HQ.KT):HQ.KT:=(Uc.kB rK tK,())
def HQ.kL (rK:JN.T) (n:Nat):HQ.KT:=C5 (HQ.kS rK) n
def HQ.k0 (rK:JN.T) (tK:HQ.KT) (k0:PS):R1 Int PS:=
 (Ei.k k0).bind fun y2=>
 (Fb.k 43 y2.1.1.at_).bind fun y3=>
 (GC.k ([123]:List UInt8) y2.2.1).bind fun y4=>
 tK.1 [] y4.2.1 y3.1.1
def HQ.kf (rK:JN.T) (k0:PS):R1 Int PS:=HQ.k0 rK (HQ.kL rK 1000000) k0
def IZ.kf (rK:JN.T) (k0:PS):R1 Int PS:=
 (Bb.kr rK k0).bind MB
def E9.kf (rK:JN.T) (k0:PS):R1 Int PS:=(Aj (S:=Dop.D4) prog 128 tb (JN.ct rK++[Ei.Kc,Fb.Kc,NR.Kc,Ex.Kc,NH.Kc,DN.Kc,MA.Kc,TL.Kc,Dv.LO,GC.Kc,NI.Kc,NJ.Kc,NK.Kc,EJ.Kc]) E9.p).J6 3000 1000000 E9.p.sp (((),()),(k0,()))
def JN.kS (r:JN.T):JN.T:=(fun x=>HQ.kf r x.2.1,fun x=>IZ.kf r x.2.1,fun x=>within r.2.2.2.1 x.2.1,fun x=>E9.kf r x.2.1,())
def JN.kR (n:Nat):JN.T:=C5 JN.kS n
def HQ.Kc (n:Nat):=kd 70 HQ.p (JN.kR n).1
def HQ.LO:=HQ.Kc FU
def IZ.Kc (n:Nat):=kd 103 IZ.p (JN.kR n).2.1
def Bb.Kc (n:Nat):=kd 127 Bb.p (JN.kR n).2.2.1
abbrev E9.kq (n:Nat):((Unit×Unit)×(PS×Unit))->Option ((Int×Unit)×(PS×Unit)):=(JN.kR n).2.2.2.1
def E9.Kc (n:Nat):=kd 128 E9.p (JN.kR n).2.2.2.1
def JN.SK (n:Nat):List (By Dop.D4):=[HQ.Kc n,IZ.Kc n,Bb.Kc n,E9.Kc n]
theorem JN.E5: ∀ n,(HQ.Kc n).Holds prog/\(IZ.Kc n).Holds prog/\(Bb.Kc n).Holds prog/\(E9.Kc n).Holds prog/\True
 | 0=>⟨AO AH HQ.ok,AO AH IZ.ok,AO AH (by kernel_rfl),AO AH E9.ok,trivial⟩
 | n+1=>by
  obtain ⟨h0,h1,h2,h3,_⟩:=JN.E5 n
  have hh: ∀ c∈JN.SK n,c.Holds prog:=(hc h0 (hc h1 (hc h2 (hc h3 hn))))
  exact ⟨GB AH (Ad hh (hc Ei.Kh (hc Fb.Kh (hc GC.Kh (hc Ex.Kh (hc Bt.Kh (hc EJ.Kh hn))))))) HQ.ok (fun t x=>HQ.k0 (JN.kR n) t x.2.1) (fun c=>(fun l k0 b1=>c 4 HQ.q4 rfl (((),(),l,()),(k0,(b1,()),())),())) (HQ.kS (JN.kR n)) (by kernel_rfl),
   kh AH (Ad hh hn) IZ.ok (by kernel_rfl),
   (mh.holds (m:=E9.kq n) h3),
   kh AH (Ad hh (hc Ei.Kh (hc Fb.Kh (hc NR.Kh (hc Ex.Kh (hc NH.Kh (hc DN.Kh (hc MA.Kh (hc TL.Kh (hc Dv.Ie (hc GC.Kh (hc NI.Kh (hc NJ.Kh (hc NK.Kh (hc EJ.Kh hn))))))))))))))) E9.ok (by kernel_rfl),
   trivial⟩
theorem HQ.Ie:HQ.LO.Holds prog:=(JN.E5 FU).1
def P5.KE:Env Dop.D4:=Aj prog 29 tb [Ei.Kc,Fb.Kc,NR.Kc,GC.Kc,MA.Kc,Ex.Kc,YJ.Kc,TL.Kc,EJ.Kc,Bt.Kc,HQ.LO] P5.p
def P5.k (k0:PS):R1 Int PS:=P5.KE.J6 3000 1000000 P5.p.sp (((),()),(k0,()))
def P5.Kc:=kd 29 P5.p fun x=>P5.k x.2.1
theorem P5.Kh:P5.Kc.Holds prog:=kh AH (hc Ei.Kh (hc Fb.Kh (hc NR.Kh (hc GC.Kh (hc MA.Kh (hc Ex.Kh (hc YJ.Kh (hc TL.Kh (hc EJ.Kh (hc Bt.Kh (hc HQ.Ie hn))))))))))) P5.ok (by kernel_rfl)
abbrev UQ.T:Type:=Int->List Dop.AZ->List Dop.HC->Int->PS->O6 Dop.HA Int Int
abbrev UR.T:Type:=List Int->List Dop.AZ->List Dop.HC->Int->PS->O6 Dop.HA Int Int
abbrev m20.KT:Type:=UQ.T×UR.T×Unit
def UQ.kB (tK:m20.KT):UQ.T:=fun t6 b0_0 b0_1 b0_2 k1=>
 ci (t6<=3) (ck (DK none (room 40 (k1.types.length+(Dop.HC.mk t6 0 0 []::[]).length)))<|
 ck (BD (t6+1))<|
 tK.1 (t6+1) b0_0 b0_1 b0_2 ((PS.U1 k1 (k1.types++Dop.HC.mk t6 0 0 []::[]))))<|
 tK.2.1 [] b0_0 b0_1 b0_2 k1
def UR.kB (tK:m20.KT):UR.T:=fun t7 b0_0 b0_1 b0_2 k1=>
 ci (k1.e=0) ((Ei.k k1).bind fun y3=>
 ci (!(y3.1.1.kind=0)) ((P5.k y3.2.1).bind fun y5=>
 ck (DK none (room 8 (t7.length+(y5.1.1::[]).length)))<|
 tK.2.1 (t7++y5.1.1::[]) b0_0 b0_1 b0_2 y5.2.1)<|
 (Bt.k t7 y3.2.1).bind fun y5=>
 ci (!(PS.e y5.2.1=0)) (Rh (Dop.HA.mk [] [] 0) (PS.when y5.2.1) (PS.e y5.2.1))<|
 Rh (Dop.HA.mk (PS.nodes y5.2.1) (PS.types y5.2.1) y5.1.1) 0 0)<|
 (Bt.k t7 k1).bind fun y3=>
 ci (!(PS.e y3.2.1=0)) (Rh (Dop.HA.mk [] [] 0) (PS.when y3.2.1) (PS.e y3.2.1))<|
 Rh (Dop.HA.mk (PS.nodes y3.2.1) (PS.types y3.2.1) y3.1.1) 0 0
def m20.kS (tK:m20.KT):m20.KT:=(UQ.kB tK,UR.kB tK,())
def m20.kL (n:Nat):m20.KT:=C5 m20.kS n
def m20.k0 (tK:m20.KT) (o:List Dop.Tok):O6 Dop.HA Int Int:=
 tK.1 0 [] [] 0 ((o,0,[],[],0,0,0,0,()))
def m20.k (o:List Dop.Tok):O6 Dop.HA Int Int:=m20.k0 (m20.kL 1000000) o
def m20.Kc:=kd 14 m20.p fun x=>m20.k x.1.1
theorem m20.Kh:m20.Kc.Holds prog:=GB AH (hc Ei.Kh (hc P5.Kh (hc Bt.Kh hn))) m20.ok (fun t x=>m20.k0 t x.1.1) (fun c=>(fun t6 b0_0 b0_1 b0_2 k1=>c 3 m20.q3 rfl (((),(),t6,()),((b0_0,b0_1,b0_2,()),k1,())),fun t7 b0_0 b0_1 b0_2 k1=>c 7 m20.q7 rfl (((),(),t7,()),((b0_0,b0_1,b0_2,()),k1,())),())) m20.kS (by kernel_rfl)
def YF.k (s:List UInt8):O6 Dop.HA Int Int:=
 (m19.k s).bind fun y2=>
 ci (!(y2.1.2.2.1=0)) (Rh (Dop.HA.mk [] [] 0) y2.1.2.1 y2.1.2.2.1)<|
 (m20.k y2.1.1).bind nB
def YF.Kc:=kd 8 YF.p fun x=>YF.k x.1.1
theorem YF.Kh:YF.Kc.Holds prog:=kh AH (hc m19.Kh (hc m20.Kh hn)) YF.ok (by kernel_rfl)
end
end Go.Proofs.Tryz
