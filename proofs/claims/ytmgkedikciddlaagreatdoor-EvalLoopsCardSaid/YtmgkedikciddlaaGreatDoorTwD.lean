/-
 Functions in plain words (what their equations say), and their contracts. Written by a program.
-/
import Derived.Test.YtmgkedikciddlaaGreatDoorMr
import Derived.Test.YtmgkedikciddlaaGreatDoorMj
set_option linter.all false
set_option maxRecDepth 100000
set_option maxHeartbeats 4000000
namespace Go.Proofs.Tryz
open Go Go.En
noncomputable section
def NP.k (k0:PS):R1 Int PS:=
 (GN.k ([40]:List UInt8) k0).bind fun y2=>
 (Dz.k y2.2.1).bind fun y3=>
 (GN.k ([41]:List UInt8) y3.2.1).bind fun y4=>
 Co y3.1.1 y4.2.1
def NP.Kc:=kd 175 NP.p fun x=>NP.k x.2.1
theorem NP.Kh:NP.Kc.Holds prog:=kh AI (hc GN.Kh (hc Dz.Ip hn)) NP.ok (by kernel_rfl)
def NQ.k (s:List UInt8) (k0:PS):R1 Int PS:=
 (FA.k s k0).bind fun y2=>
 ci y2.1.1 (Co (-1) y2.2.1)<|
 (Dz.k y2.2.1).bind fun y4=>
 (GN.k s y4.2.1).bind fun y5=>
 Co y4.1.1 y5.2.1
def NQ.Kc:=kd 176 NQ.p fun x=>NQ.k x.1.2.1 x.2.1
theorem NQ.Kh:NQ.Kc.Holds prog:=kh AI (hc FA.Kh (hc Dz.Ip (hc GN.Kh hn))) NQ.ok (by kernel_rfl)
def NR.k (k0:PS):R1 Bool PS:=
 (Es.k k0).bind fun y2=>
 ci (y2.1.1.kind=1) (ck (BI (PS.at_ y2.2.1+1))<|
 ci (PS.at_ y2.2.1+1<I (PS.l y2.2.1).length) (ck (BI (PS.at_ y2.2.1+1))<|
 ck (0<=PS.at_ y2.2.1+1/\PS.at_ y2.2.1+1<I (PS.l y2.2.1).length)<|
 Co (decide ((List.getD (PS.l y2.2.1) (PS.at_ y2.2.1+1).toNat Dop.d4).text=(58:UInt8)::[])) y2.2.1)<|
 Co false y2.2.1)<|
 Co false y2.2.1
def NR.Kc:=kd 177 NR.p fun x=>NR.k x.2.1
theorem NR.Kh:NR.Kc.Holds prog:=kh AI (hc Es.Kh hn) NR.ok (by kernel_rfl)
abbrev Il.kr (r:Je.T) (k0:PS):R1 Int PS:=r.2.1 (((),()),(k0,()))
abbrev Be.kr (r:Je.T) (k0:PS):R1 Int PS:=r.2.2.1 (((),(),()),(k0,()))
abbrev U0.T:Type:=List Int->PS->Dop.Ab->R1 Int PS
abbrev Ha.KT:Type:=U0.T×Unit
def U0.kB (rK:Je.T) (tK:Ha.KT):U0.T:=fun l k0 b1=>
 (FA.k ([125]:List UInt8) k0).bind fun y2=>
 ci (!y2.1.1) (ci (PS.e y2.2.1=0) ((Il.kr rK y2.2.1).bind fun y5=>
 ck (DG none (room 8 (l.length+(y5.1.1::[]).length)))<|
 tK.1 (l++y5.1.1::[]) y5.2.1 b1)<|
 (Bv.k l y2.2.1).bind fun y5=>
 (ES.k (Dop.Ab.mk b1.kind y5.1.1 b1.b b1.c b1.d b1.text b1.n b1.CG b1.at_) y5.2.1).bind ML)<|
 (Bv.k l y2.2.1).bind fun y4=>
 (ES.k (Dop.Ab.mk b1.kind y4.1.1 b1.b b1.c b1.d b1.text b1.n b1.CG b1.at_) y4.2.1).bind ML
def Ha.kS (rK:Je.T) (tK:Ha.KT):Ha.KT:=(U0.kB rK tK,())
def Ha.kL (rK:Je.T) (n:Nat):Ha.KT:=Bp (Ha.kS rK) n
def Ha.k0 (rK:Je.T) (tK:Ha.KT) (k0:PS):R1 Int PS:=
 (Es.k k0).bind fun y2=>
 (Fm.k 43 y2.1.1.at_).bind fun y3=>
 (GN.k ([123]:List UInt8) y2.2.1).bind fun y4=>
 tK.1 [] y4.2.1 y3.1.1
def Ha.kf (rK:Je.T) (k0:PS):R1 Int PS:=Ha.k0 rK (Ha.kL rK 1000000) k0
def Il.kf (rK:Je.T) (k0:PS):R1 Int PS:=
 (Be.kr rK k0).bind ML
def FH.kf (rK:Je.T) (k0:PS):R1 Int PS:=(Au (S:=Dop.D4) prog 144 tb (Je.ct rK++[Es.Kc,Fm.Kc,NW.Kc,FA.Kc,NO.Kc,DW.Kc,MK.Kc,Tq.Kc,Dz.LZ,GN.Kc,NP.Kc,NQ.Kc,NR.Kc,ES.Kc]) FH.p).KJ 3000 1000000 FH.p.sp (((),()),(k0,()))
def Je.kS (r:Je.T):Je.T:=(fun x=>Ha.kf r x.2.1,fun x=>Il.kf r x.2.1,fun x=>within r.2.2.2.1 x.2.1,fun x=>FH.kf r x.2.1,())
def Je.kR (n:Nat):Je.T:=Bp Je.kS n
def Ha.Kc (n:Nat):=kd 86 Ha.p (Je.kR n).1
def Ha.LZ:=Ha.Kc FU
def Il.Kc (n:Nat):=kd 119 Il.p (Je.kR n).2.1
def Be.Kc (n:Nat):=kd 143 Be.p (Je.kR n).2.2.1
abbrev FH.kq (n:Nat):((Unit×Unit)×(PS×Unit))->Option ((Int×Unit)×(PS×Unit)):=(Je.kR n).2.2.2.1
def FH.Kc (n:Nat):=kd 144 FH.p (Je.kR n).2.2.2.1
def Je.Si (n:Nat):List (B2 Dop.D4):=[Ha.Kc n,Il.Kc n,Be.Kc n,FH.Kc n]
theorem Je.FD: ∀ n,(Ha.Kc n).Holds prog/\(Il.Kc n).Holds prog/\(Be.Kc n).Holds prog/\(FH.Kc n).Holds prog/\True
 | 0=>⟨AP AI Ha.ok,AP AI Il.ok,AP AI (by kernel_rfl),AP AI FH.ok,trivial⟩
 | n+1=>by
  obtain ⟨h0,h1,h2,h3,_⟩:=Je.FD n
  have hh: ∀ c∈Je.Si n,c.Holds prog:=(hc h0 (hc h1 (hc h2 (hc h3 hn))))
  exact ⟨Fx AI (Af hh (hc Es.Kh (hc Fm.Kh (hc GN.Kh (hc FA.Kh (hc Bv.Kh (hc ES.Kh hn))))))) Ha.ok (fun t x=>Ha.k0 (Je.kR n) t x.2.1) (fun c=>(fun l k0 b1=>c 4 Ha.q4 rfl (((),(),l,()),(k0,(b1,()),())),())) (Ha.kS (Je.kR n)) (by kernel_rfl),
   kh AI (Af hh hn) Il.ok (by kernel_rfl),
   (nY.holds (m:=FH.kq n) h3),
   kh AI (Af hh (hc Es.Kh (hc Fm.Kh (hc NW.Kh (hc FA.Kh (hc NO.Kh (hc DW.Kh (hc MK.Kh (hc Tq.Kh (hc Dz.Ip (hc GN.Kh (hc NP.Kh (hc NQ.Kh (hc NR.Kh (hc ES.Kh hn))))))))))))))) FH.ok (by kernel_rfl),
   trivial⟩
theorem Ha.Ip:Ha.LZ.Holds prog:=(Je.FD FU).1
def QW.KE:Env Dop.D4:=Au prog 43 tb [Es.Kc,Fm.Kc,NW.Kc,GN.Kc,MK.Kc,FA.Kc,Yd.Kc,Tq.Kc,ES.Kc,Bv.Kc,Ha.LZ] QW.p
def QW.k (k0:PS):R1 Int PS:=QW.KE.KJ 3000 1000000 QW.p.sp (((),()),(k0,()))
def QW.Kc:=kd 43 QW.p fun x=>QW.k x.2.1
theorem QW.Kh:QW.Kc.Holds prog:=kh AI (hc Es.Kh (hc Fm.Kh (hc NW.Kh (hc GN.Kh (hc MK.Kh (hc FA.Kh (hc Yd.Kh (hc Tq.Kh (hc ES.Kh (hc Bv.Kh (hc Ha.Ip hn))))))))))) QW.ok (by kernel_rfl)
abbrev Ut.T:Type:=Int->List Dop.Ab->List Dop.HM->Int->PS->PI Dop.FM Int Int
abbrev Uu.T:Type:=List Int->List Dop.Ab->List Dop.HM->Int->PS->PI Dop.FM Int Int
abbrev m20.KT:Type:=Ut.T×Uu.T×Unit
def Ut.kB (tK:m20.KT):Ut.T:=fun t6 b0_0 b0_1 b0_2 k1=>
 ci (t6<=3) (ck (DG none (room 40 (k1.types.length+(Dop.HM.mk t6 0 0 []::[]).length)))<|
 ck (BI (t6+1))<|
 tK.1 (t6+1) b0_0 b0_1 b0_2 ((PS.VM k1 (k1.types++Dop.HM.mk t6 0 0 []::[]))))<|
 tK.2.1 [] b0_0 b0_1 b0_2 k1
def Uu.kB (tK:m20.KT):Uu.T:=fun t7 b0_0 b0_1 b0_2 k1=>
 ci (k1.e=0) ((Es.k k1).bind fun y3=>
 ci (!(y3.1.1.kind=0)) ((QW.k y3.2.1).bind fun y5=>
 ck (DG none (room 8 (t7.length+(y5.1.1::[]).length)))<|
 tK.2.1 (t7++y5.1.1::[]) b0_0 b0_1 b0_2 y5.2.1)<|
 (Bv.k t7 y3.2.1).bind fun y5=>
 ci (!(PS.e y5.2.1=0)) (HJ (Dop.FM.mk [] [] 0) (PS.when y5.2.1) (PS.e y5.2.1))<|
 HJ (Dop.FM.mk (PS.nodes y5.2.1) (PS.types y5.2.1) y5.1.1) 0 0)<|
 (Bv.k t7 k1).bind fun y3=>
 ci (!(PS.e y3.2.1=0)) (HJ (Dop.FM.mk [] [] 0) (PS.when y3.2.1) (PS.e y3.2.1))<|
 HJ (Dop.FM.mk (PS.nodes y3.2.1) (PS.types y3.2.1) y3.1.1) 0 0
def m20.kS (tK:m20.KT):m20.KT:=(Ut.kB tK,Uu.kB tK,())
def m20.kL (n:Nat):m20.KT:=Bp m20.kS n
def m20.k0 (tK:m20.KT) (o:List Dop.Tok):PI Dop.FM Int Int:=
 tK.1 0 [] [] 0 ((o,0,[],[],0,0,0,0,()))
def m20.k (o:List Dop.Tok):PI Dop.FM Int Int:=m20.k0 (m20.kL 1000000) o
def m20.Kc:=kd 23 m20.p fun x=>m20.k x.1.1
theorem m20.Kh:m20.Kc.Holds prog:=Fx AI (hc Es.Kh (hc QW.Kh (hc Bv.Kh hn))) m20.ok (fun t x=>m20.k0 t x.1.1) (fun c=>(fun t6 b0_0 b0_1 b0_2 k1=>c 3 m20.q3 rfl (((),(),t6,()),((b0_0,b0_1,b0_2,()),k1,())),fun t7 b0_0 b0_1 b0_2 k1=>c 7 m20.q7 rfl (((),(),t7,()),((b0_0,b0_1,b0_2,()),k1,())),())) m20.kS (by kernel_rfl)
def V2.k (s:List UInt8):PI Dop.FM Int Int:=
 (m19.k s).bind fun y2=>
 ci (!(y2.1.2.2.1=0)) (HJ (Dop.FM.mk [] [] 0) y2.1.2.1 y2.1.2.2.1)<|
 (m20.k y2.1.1).bind nv
def V2.Kc:=kd 13 V2.p fun x=>V2.k x.1.1
theorem V2.Kh:V2.Kc.Holds prog:=kh AI (hc m19.Kh (hc m20.Kh hn)) V2.ok (by kernel_rfl)
end
end Go.Proofs.Tryz
