/-
 Functions in plain words (what their equations say), and their contracts. Written by a program.
-/
import Derived.Test.YtkpggdcpaeanaaaGreatDoorMr
import Derived.Test.YtkpggdcpaeanaaaGreatDoorMj
set_option linter.all false
set_option maxRecDepth 100000
set_option maxHeartbeats 4000000
namespace Go.Proofs.Tryz
open Go Go.En
noncomputable section
def Jd.k (k0:PS):R1 Int PS:=
 (DN.k ([40]:List UInt8) k0).bind fun y2=>
 (Dg.k y2.2.1).bind fun y3=>
 (DN.k ([41]:List UInt8) y3.2.1).bind fun y4=>
 CS y3.1.1 y4.2.1
def Jd.Kc:=kd 206 Jd.p fun x=>Jd.k x.2.1
theorem Jd.Kh:Jd.Kc.Holds prog:=kh AH (hc DN.Kh (hc Dg.IL hn)) Jd.ok (by kernel_rfl)
def Je.k (s:List UInt8) (k0:PS):R1 Int PS:=
 (Cx.k s k0).bind fun y2=>
 ci y2.1.1 (CS (-1) y2.2.1)<|
 (Dg.k y2.2.1).bind fun y4=>
 (DN.k s y4.2.1).bind fun y5=>
 CS y4.1.1 y5.2.1
def Je.Kc:=kd 207 Je.p fun x=>Je.k x.1.2.1 x.2.1
theorem Je.Kh:Je.Kc.Holds prog:=kh AH (hc Cx.Kh (hc Dg.IL (hc DN.Kh hn))) Je.ok (by kernel_rfl)
def Mu.k (k0:PS):R1 Bool PS:=
 (Eo.k k0).bind fun y2=>
 ci (y2.1.1.kind=1) (ck (Ap (PS.at_ y2.2.1+1))<|
 ci (PS.at_ y2.2.1+1<I (PS.l y2.2.1).length) (ck (Ap (PS.at_ y2.2.1+1))<|
 ck (0<=PS.at_ y2.2.1+1/\PS.at_ y2.2.1+1<I (PS.l y2.2.1).length)<|
 CS (decide ((List.getD (PS.l y2.2.1) (PS.at_ y2.2.1+1).toNat Dop.d4).text=(58:UInt8)::[])) y2.2.1)<|
 CS false y2.2.1)<|
 CS false y2.2.1
def Mu.Kc:=kd 208 Mu.p fun x=>Mu.k x.2.1
theorem Mu.Kh:Mu.Kc.Holds prog:=kh AH (hc Eo.Kh hn) Mu.ok (by kernel_rfl)
abbrev G0.kr (r:HG.T) (k0:PS):R1 Int PS:=r.1 (((),()),(k0,()))
abbrev GO.kr (r:HG.T) (k0:PS):R1 Int PS:=r.2.1 (((),()),(k0,()))
abbrev DA.kr (r:HG.T) (k0:PS):R1 Int PS:=r.2.2.1 (((),(),()),(k0,()))
abbrev Tx.T:Type:=List Int->PS->Dop.AR->R1 Int PS
abbrev G0.KT:Type:=Tx.T×Unit
def Tx.kB (rK:HG.T) (tK:G0.KT):Tx.T:=fun l k0 b1=>
 (Cx.k ([125]:List UInt8) k0).bind fun y2=>
 ci (!y2.1.1) (ci (PS.e y2.2.1=0) ((GO.kr rK y2.2.1).bind fun y5=>
 ck (Cc none (room 8 (l.length+(y5.1.1::[]).length)))<|
 tK.1 (l++y5.1.1::[]) y5.2.1 b1)<|
 (Bq.k l y2.2.1).bind fun y5=>
 (Cy.k (Dop.AR.mk b1.kind y5.1.1 b1.b b1.c b1.d b1.text b1.n b1.AZ b1.at_) y5.2.1).bind G3)<|
 (Bq.k l y2.2.1).bind fun y4=>
 (Cy.k (Dop.AR.mk b1.kind y4.1.1 b1.b b1.c b1.d b1.text b1.n b1.AZ b1.at_) y4.2.1).bind G3
def G0.kS (rK:HG.T) (tK:G0.KT):G0.KT:=(Tx.kB rK tK,())
def G0.kL (rK:HG.T) (n:Nat):G0.KT:=Cv (G0.kS rK) n
def G0.k0 (rK:HG.T) (tK:G0.KT) (k0:PS):R1 Int PS:=
 (Eo.k k0).bind fun y2=>
 (Fc.k 43 y2.1.1.at_).bind fun y3=>
 (DN.k ([123]:List UInt8) y2.2.1).bind fun y4=>
 tK.1 [] y4.2.1 y3.1.1
def G0.kf (rK:HG.T) (k0:PS):R1 Int PS:=G0.k0 rK (G0.kL rK 1000000) k0
def GO.kf (rK:HG.T) (k0:PS):R1 Int PS:=
 (DA.kr rK k0).bind G3
abbrev Ld.T:Type:=PS->Dop.AR->R1 Int PS
abbrev Lb.T:Type:=PS->Dop.AR->R1 Int PS
abbrev Lc.T:Type:=Int->PS->Dop.AR->R1 Int PS
abbrev Cu.KT:Type:=Ld.T×Lb.T×Lc.T×Unit
def Ld.kB (rK:HG.T) (tK:Cu.KT):Ld.T:=fun k0 b1=>
 (Cy.k b1 k0).bind G3
def Lb.kB (rK:HG.T) (tK:Cu.KT):Lb.T:=fun k0 b1=>
 (DN.k ([59]:List UInt8) k0).bind fun y2=>
 tK.1 y2.2.1 b1
def Lc.kB (rK:HG.T) (tK:Cu.KT):Lc.T:=fun t4 k0 b1=>
 (IJ.k 3 k0).bind fun y2=>
 ck (Ap (t4*y2.1.1.n))<|
 (DN.k ([58]:List UInt8) y2.2.1).bind fun y3=>
 (GO.kr rK y3.2.1).bind fun y4=>
 tK.1 y4.2.1 (Dop.AR.mk b1.kind y4.1.1 b1.b b1.c b1.d b1.text (t4*y2.1.1.n) b1.AZ b1.at_)
def Cu.kS (rK:HG.T) (tK:Cu.KT):Cu.KT:=(Ld.kB rK tK,Lb.kB rK tK,Lc.kB rK tK,())
def Cu.kL (rK:HG.T) (n:Nat):Cu.KT:=Cv (Cu.kS rK) n
def Cu.k0 (rK:HG.T) (tK:Cu.KT) (k0:PS):R1 Int PS:=
 (Eo.k k0).bind fun y2=>
 (Fc.k 44 y2.1.1.at_).bind fun y3=>
 (Mz.k ([123]:List UInt8) y2.2.1).bind fun y4=>
 ci y4.1.1 ((G0.kr rK y4.2.1).bind G3)<|
 (Cx.k ([59]:List UInt8) y4.2.1).bind fun y6=>
 ci y6.1.1 (tK.1 y6.2.1 y3.1.1)<|
 (Mt.k y6.2.1).bind fun y8=>
 ci y8.1.1 ((DM.k y8.2.1).bind fun y10=>
 (IJ.k 1 y10.2.1).bind fun y11=>
 (Pn.k y10.1.1 y11.2.1).bind fun y12=>
 (Cx.k ([61]:List UInt8) y12.2.1).bind fun y13=>
 ci y13.1.1 ((Dg.k y13.2.1).bind fun y15=>
 tK.2.1 y15.2.1 (Dop.AR.mk 45 y15.1.1 y3.1.1.b y3.1.1.c y3.1.1.d y11.1.1.text y3.1.1.n y12.1.1 y3.1.1.at_))<|
 tK.2.1 y13.2.1 (Dop.AR.mk 45 y3.1.1.a y3.1.1.b y3.1.1.c y3.1.1.d y11.1.1.text y3.1.1.n y12.1.1 y3.1.1.at_))<|
 (Cx.k ([105,102]:List UInt8) y8.2.1).bind fun y10=>
 ci y10.1.1 ((Jd.k y10.2.1).bind fun y12=>
 (GO.kr rK y12.2.1).bind fun y13=>
 (Cx.k ([101,108,115,101]:List UInt8) y13.2.1).bind fun y14=>
 ci y14.1.1 ((GO.kr rK y14.2.1).bind fun y16=>
 tK.1 y16.2.1 (Dop.AR.mk 31 y12.1.1 y13.1.1 y16.1.1 y3.1.1.d y3.1.1.text y3.1.1.n y3.1.1.AZ y3.1.1.at_))<|
 tK.1 y14.2.1 (Dop.AR.mk 31 y12.1.1 y13.1.1 y3.1.1.c y3.1.1.d y3.1.1.text y3.1.1.n y3.1.1.AZ y3.1.1.at_))<|
 (Cx.k ([119,104,105,108,101]:List UInt8) y10.2.1).bind fun y12=>
 ci y12.1.1 ((Jd.k y12.2.1).bind fun y14=>
 (GO.kr rK y14.2.1).bind fun y15=>
 tK.1 y15.2.1 (Dop.AR.mk 32 y14.1.1 y15.1.1 y3.1.1.c y3.1.1.d y3.1.1.text y3.1.1.n y3.1.1.AZ y3.1.1.at_))<|
 (Cx.k ([100,111]:List UInt8) y12.2.1).bind fun y14=>
 ci y14.1.1 ((GO.kr rK y14.2.1).bind fun y16=>
 (DN.k ([119,104,105,108,101]:List UInt8) y16.2.1).bind fun y17=>
 (Jd.k y17.2.1).bind fun y18=>
 (DN.k ([59]:List UInt8) y18.2.1).bind fun y19=>
 tK.1 y19.2.1 (Dop.AR.mk 33 y18.1.1 y16.1.1 y3.1.1.c y3.1.1.d y3.1.1.text y3.1.1.n y3.1.1.AZ y3.1.1.at_))<|
 (Cx.k ([102,111,114]:List UInt8) y14.2.1).bind fun y16=>
 ci y16.1.1 ((DN.k ([40]:List UInt8) y16.2.1).bind fun y18=>
 (Je.k ([59]:List UInt8) y18.2.1).bind fun y19=>
 (Je.k ([59]:List UInt8) y19.2.1).bind fun y20=>
 (Je.k ([41]:List UInt8) y20.2.1).bind fun y21=>
 (GO.kr rK y21.2.1).bind fun y22=>
 tK.1 y22.2.1 (Dop.AR.mk 34 y19.1.1 y20.1.1 y21.1.1 y22.1.1 y3.1.1.text y3.1.1.n y3.1.1.AZ y3.1.1.at_))<|
 (Cx.k ([98,114,101,97,107]:List UInt8) y16.2.1).bind fun y18=>
 ci y18.1.1 ((DN.k ([59]:List UInt8) y18.2.1).bind fun y20=>
 tK.1 y20.2.1 (Dop.AR.mk 35 y3.1.1.a y3.1.1.b y3.1.1.c y3.1.1.d y3.1.1.text y3.1.1.n y3.1.1.AZ y3.1.1.at_))<|
 (Cx.k ([99,111,110,116,105,110,117,101]:List UInt8) y18.2.1).bind fun y20=>
 ci y20.1.1 ((DN.k ([59]:List UInt8) y20.2.1).bind fun y22=>
 tK.1 y22.2.1 (Dop.AR.mk 36 y3.1.1.a y3.1.1.b y3.1.1.c y3.1.1.d y3.1.1.text y3.1.1.n y3.1.1.AZ y3.1.1.at_))<|
 (Cx.k ([114,101,116,117,114,110]:List UInt8) y20.2.1).bind fun y22=>
 ci y22.1.1 ((Je.k ([59]:List UInt8) y22.2.1).bind fun y24=>
 tK.1 y24.2.1 (Dop.AR.mk 37 y24.1.1 y3.1.1.b y3.1.1.c y3.1.1.d y3.1.1.text y3.1.1.n y3.1.1.AZ y3.1.1.at_))<|
 (Cx.k ([103,111,116,111]:List UInt8) y22.2.1).bind fun y24=>
 ci y24.1.1 ((IJ.k 1 y24.2.1).bind fun y26=>
 (DN.k ([59]:List UInt8) y26.2.1).bind fun y27=>
 tK.1 y27.2.1 (Dop.AR.mk 38 y3.1.1.a y3.1.1.b y3.1.1.c y3.1.1.d y26.1.1.text y3.1.1.n y3.1.1.AZ y3.1.1.at_))<|
 (Cx.k ([115,119,105,116,99,104]:List UInt8) y24.2.1).bind fun y26=>
 ci y26.1.1 ((Jd.k y26.2.1).bind fun y28=>
 (G0.kr rK y28.2.1).bind fun y29=>
 tK.1 y29.2.1 (Dop.AR.mk 40 y28.1.1 y29.1.1 y3.1.1.c y3.1.1.d y3.1.1.text y3.1.1.n y3.1.1.AZ y3.1.1.at_))<|
 (Cx.k ([99,97,115,101]:List UInt8) y26.2.1).bind fun y28=>
 ci y28.1.1 ((Cx.k ([45]:List UInt8) y28.2.1).bind fun y30=>
 ci y30.1.1 (tK.2.2.1 ((-1)) y30.2.1 (Dop.AR.mk 41 y3.1.1.a y3.1.1.b y3.1.1.c y3.1.1.d y3.1.1.text y3.1.1.n y3.1.1.AZ y3.1.1.at_))<|
 tK.2.2.1 1 y30.2.1 (Dop.AR.mk 41 y3.1.1.a y3.1.1.b y3.1.1.c y3.1.1.d y3.1.1.text y3.1.1.n y3.1.1.AZ y3.1.1.at_))<|
 (Cx.k ([100,101,102,97,117,108,116]:List UInt8) y28.2.1).bind fun y30=>
 ci y30.1.1 ((DN.k ([58]:List UInt8) y30.2.1).bind fun y32=>
 (GO.kr rK y32.2.1).bind fun y33=>
 tK.1 y33.2.1 (Dop.AR.mk 42 y33.1.1 y3.1.1.b y3.1.1.c y3.1.1.d y3.1.1.text y3.1.1.n y3.1.1.AZ y3.1.1.at_))<|
 (Mu.k y30.2.1).bind fun y32=>
 ci y32.1.1 ((IJ.k 1 y32.2.1).bind fun y34=>
 (DN.k ([58]:List UInt8) y34.2.1).bind fun y35=>
 (GO.kr rK y35.2.1).bind fun y36=>
 tK.1 y36.2.1 (Dop.AR.mk 39 y36.1.1 y3.1.1.b y3.1.1.c y3.1.1.d y34.1.1.text y3.1.1.n y3.1.1.AZ y3.1.1.at_))<|
 (Dg.k y32.2.1).bind fun y34=>
 (DN.k ([59]:List UInt8) y34.2.1).bind fun y35=>
 tK.1 y35.2.1 (Dop.AR.mk 30 y34.1.1 y3.1.1.b y3.1.1.c y3.1.1.d y3.1.1.text y3.1.1.n y3.1.1.AZ y3.1.1.at_)
def Cu.kf (rK:HG.T) (k0:PS):R1 Int PS:=Cu.k0 rK (Cu.kL rK 1000000) k0
def HG.kS (r:HG.T):HG.T:=(fun x=>G0.kf r x.2.1,fun x=>GO.kf r x.2.1,fun x=>within r.2.2.2.1 x.2.1,fun x=>Cu.kf r x.2.1,())
def HG.kR (n:Nat):HG.T:=Cv HG.kS n
def G0.Kc (n:Nat):=kd 98 G0.p (HG.kR n).1
def G0.Od:=G0.Kc FU
def G0.k:=G0.kr (HG.kR FU)
def GO.Kc (n:Nat):=kd 145 GO.p (HG.kR n).2.1
def DA.Kc (n:Nat):=kd 180 DA.p (HG.kR n).2.2.1
abbrev Cu.kq (n:Nat):((Unit×Unit)×(PS×Unit))->Option ((Int×Unit)×(PS×Unit)):=(HG.kR n).2.2.2.1
def Cu.Kc (n:Nat):=kd 181 Cu.p (HG.kR n).2.2.2.1
def HG.Re (n:Nat):List (CC Dop.D4):=[G0.Kc n,GO.Kc n,DA.Kc n,Cu.Kc n]
theorem HG.E0: ∀ n,(G0.Kc n).Holds prog/\(GO.Kc n).Holds prog/\(DA.Kc n).Holds prog/\(Cu.Kc n).Holds prog/\True
 | 0=>⟨AN AH G0.ok,AN AH GO.ok,AN AH (by kernel_rfl),AN AH Cu.ok,trivial⟩
 | n+1=>by
  obtain ⟨h0,h1,h2,h3,_⟩:=HG.E0 n
  have hh: ∀ c∈HG.Re n,c.Holds prog:=(hc h0 (hc h1 (hc h2 (hc h3 hn))))
  exact ⟨E7 AH (Ac hh (hc Eo.Kh (hc Fc.Kh (hc DN.Kh (hc Cx.Kh (hc Bq.Kh (hc Cy.Kh hn))))))) G0.ok (fun t x=>G0.k0 (HG.kR n) t x.2.1) (fun c=>(fun l k0 b1=>c 4 G0.q4 rfl (((),(),l,()),(k0,(b1,()),())),())) (G0.kS (HG.kR n)) (by kernel_rfl),
   kh AH (Ac hh hn) GO.ok (by kernel_rfl),
   (j6.holds (m:=Cu.kq n) h3),
   E7 AH (Ac hh (hc Eo.Kh (hc Fc.Kh (hc Mz.Kh (hc Cx.Kh (hc Mt.Kh (hc DM.Kh (hc IJ.Kh (hc Pn.Kh (hc Dg.IL (hc DN.Kh (hc Jd.Kh (hc Je.Kh (hc Mu.Kh (hc Cy.Kh hn))))))))))))))) Cu.ok (fun t x=>Cu.k0 (HG.kR n) t x.2.1) (fun c=>(fun k0 b1=>c 64 Cu.kj rfl (((),(),()),(k0,(b1,()),())),fun k0 b1=>c 13 Cu.Xq rfl (((),(),()),(k0,(b1,()),())),fun t4 k0 b1=>c 53 Cu.ki rfl (((),(),t4,()),(k0,(b1,()),())),())) (Cu.kS (HG.kR n)) (by kernel_rfl),
   trivial⟩
theorem G0.IL:G0.Od.Holds prog:=(HG.E0 FU).1
abbrev Tp.T:Type:=List Int->PS->Dop.AR->R1 Int PS
abbrev Pg.T:Type:=List Int->PS->Dop.AR->R1 Int PS
abbrev IQ.KT:Type:=Tp.T×Pg.T×Unit
def Tp.kB (tK:IQ.KT):Tp.T:=fun t4 k0 b1=>
 ci (I t4.length=0) ((Qw.k k0).bind fun y3=>
 (Pn.k y3.1.1.AZ y3.2.1).bind fun y4=>
 (DN.k ([59]:List UInt8) y4.2.1).bind fun y5=>
 (Cy.k (Dop.AR.mk y3.1.1.kind y3.1.1.a y3.1.1.b y3.1.1.c y3.1.1.d y3.1.1.text y3.1.1.n y4.1.1 y3.1.1.at_) y5.2.1).bind fun y6=>
 ck (Cc none (room 8 (t4.length+(y6.1.1::[]).length)))<|
 ci (!(PS.e y6.2.1=0)) (CS (-1) y6.2.1)<|
 tK.1 (t4++y6.1.1::[]) y6.2.1 b1)<|
 (Cx.k ([125]:List UInt8) k0).bind fun y3=>
 ci (!y3.1.1) (ci (PS.e y3.2.1=0) ((Qw.k y3.2.1).bind fun y6=>
 (Pn.k y6.1.1.AZ y6.2.1).bind fun y7=>
 (DN.k ([59]:List UInt8) y7.2.1).bind fun y8=>
 (Cy.k (Dop.AR.mk y6.1.1.kind y6.1.1.a y6.1.1.b y6.1.1.c y6.1.1.d y6.1.1.text y6.1.1.n y7.1.1 y6.1.1.at_) y8.2.1).bind fun y9=>
 ck (Cc none (room 8 (t4.length+(y9.1.1::[]).length)))<|
 ci (!(PS.e y9.2.1=0)) (CS (-1) y9.2.1)<|
 tK.1 (t4++y9.1.1::[]) y9.2.1 b1)<|
 (DN.k ([59]:List UInt8) y3.2.1).bind fun y6=>
 (Bq.k t4 y6.2.1).bind fun y7=>
 (Cy.k (Dop.AR.mk b1.kind y7.1.1 b1.b b1.c b1.d b1.text b1.n b1.AZ b1.at_) y7.2.1).bind G3)<|
 (DN.k ([59]:List UInt8) y3.2.1).bind fun y5=>
 (Bq.k t4 y5.2.1).bind fun y6=>
 (Cy.k (Dop.AR.mk b1.kind y6.1.1 b1.b b1.c b1.d b1.text b1.n b1.AZ b1.at_) y6.2.1).bind G3
def Pg.kB (tK:IQ.KT):Pg.T:=fun t7 k0 b1=>
 (Cx.k ([41]:List UInt8) k0).bind fun y2=>
 ci (!y2.1.1) (ci (PS.e y2.2.1=0) (ci (0<I t7.length) ((DN.k ([44]:List UInt8) y2.2.1).bind fun y6=>
 (Qw.k y6.2.1).bind fun y7=>
 (Cy.k y7.1.1 y7.2.1).bind fun y8=>
 ck (Cc none (room 8 (t7.length+(y8.1.1::[]).length)))<|
 tK.2.1 (t7++y8.1.1::[]) y8.2.1 b1)<|
 (Qw.k y2.2.1).bind fun y6=>
 (Cy.k y6.1.1 y6.2.1).bind fun y7=>
 ck (Cc none (room 8 (t7.length+(y7.1.1::[]).length)))<|
 tK.2.1 (t7++y7.1.1::[]) y7.2.1 b1)<|
 (Bq.k t7 y2.2.1).bind fun y5=>
 (G0.k y5.2.1).bind fun y6=>
 (Cy.k (Dop.AR.mk b1.kind y5.1.1 y6.1.1 b1.c b1.d b1.text b1.n b1.AZ b1.at_) y6.2.1).bind G3)<|
 (Bq.k t7 y2.2.1).bind fun y4=>
 (G0.k y4.2.1).bind fun y5=>
 (Cy.k (Dop.AR.mk b1.kind y4.1.1 y5.1.1 b1.c b1.d b1.text b1.n b1.AZ b1.at_) y5.2.1).bind G3
def IQ.kS (tK:IQ.KT):IQ.KT:=(Tp.kB tK,Pg.kB tK,())
def IQ.kL (n:Nat):IQ.KT:=Cv IQ.kS n
def IQ.k0 (tK:IQ.KT) (k0:PS):R1 Int PS:=
 (Eo.k k0).bind fun y2=>
 (Fc.k 53 y2.1.1.at_).bind fun y3=>
 (Mz.k ([115,116,114,117,99,116]:List UInt8) y2.2.1).bind fun y4=>
 ci y4.1.1 (ck (Ap (PS.at_ y4.2.1+2))<|
 ci (PS.at_ y4.2.1+2<I (PS.l y4.2.1).length) (ck (Ap (PS.at_ y4.2.1+2))<|
 ck (0<=PS.at_ y4.2.1+2/\PS.at_ y4.2.1+2<I (PS.l y4.2.1).length)<|
 ci ((List.getD (PS.l y4.2.1) (PS.at_ y4.2.1+2).toNat Dop.d4).text=(123:UInt8)::[]) ((DN.k ([115,116,114,117,99,116]:List UInt8) y4.2.1).bind fun y8=>
 (IJ.k 1 y8.2.1).bind fun y9=>
 (DN.k ([123]:List UInt8) y9.2.1).bind fun y10=>
 tK.1 [] y10.2.1 (Dop.AR.mk y3.1.1.kind y3.1.1.a y3.1.1.b y3.1.1.c y3.1.1.d y9.1.1.text y3.1.1.n y3.1.1.AZ y3.1.1.at_))<|
 (Qw.k y4.2.1).bind fun y8=>
 (Cx.k ([40]:List UInt8) y8.2.1).bind fun y9=>
 ci y9.1.1 (tK.2.1 [] y9.2.1 (Dop.AR.mk 50 y3.1.1.a y3.1.1.b y3.1.1.c y3.1.1.d y8.1.1.text y3.1.1.n y8.1.1.AZ y3.1.1.at_))<|
 (Pn.k y8.1.1.AZ y9.2.1).bind fun y11=>
 (Cx.k ([61]:List UInt8) y11.2.1).bind fun y12=>
 ci y12.1.1 ((Cx.k ([45]:List UInt8) y12.2.1).bind fun y14=>
 ci y14.1.1 ((IJ.k 3 y14.2.1).bind fun y16=>
 ck (Ap ((-1)*y16.1.1.n))<|
 (DN.k ([59]:List UInt8) y16.2.1).bind fun y17=>
 (Cy.k (Dop.AR.mk 52 y3.1.1.a y3.1.1.b y3.1.1.c y3.1.1.d y8.1.1.text ((-1)*y16.1.1.n) y11.1.1 y3.1.1.at_) y17.2.1).bind G3)<|
 (IJ.k 3 y14.2.1).bind fun y16=>
 ck (Ap (1*y16.1.1.n))<|
 (DN.k ([59]:List UInt8) y16.2.1).bind fun y17=>
 (Cy.k (Dop.AR.mk 52 y3.1.1.a y3.1.1.b y3.1.1.c y3.1.1.d y8.1.1.text (1*y16.1.1.n) y11.1.1 y3.1.1.at_) y17.2.1).bind G3)<|
 (DN.k ([59]:List UInt8) y12.2.1).bind fun y14=>
 (Cy.k (Dop.AR.mk 52 y3.1.1.a y3.1.1.b y3.1.1.c y3.1.1.d y8.1.1.text y3.1.1.n y11.1.1 y3.1.1.at_) y14.2.1).bind G3)<|
 (Qw.k y4.2.1).bind fun y7=>
 (Cx.k ([40]:List UInt8) y7.2.1).bind fun y8=>
 ci y8.1.1 (tK.2.1 [] y8.2.1 (Dop.AR.mk 50 y3.1.1.a y3.1.1.b y3.1.1.c y3.1.1.d y7.1.1.text y3.1.1.n y7.1.1.AZ y3.1.1.at_))<|
 (Pn.k y7.1.1.AZ y8.2.1).bind fun y10=>
 (Cx.k ([61]:List UInt8) y10.2.1).bind fun y11=>
 ci y11.1.1 ((Cx.k ([45]:List UInt8) y11.2.1).bind fun y13=>
 ci y13.1.1 ((IJ.k 3 y13.2.1).bind fun y15=>
 ck (Ap ((-1)*y15.1.1.n))<|
 (DN.k ([59]:List UInt8) y15.2.1).bind fun y16=>
 (Cy.k (Dop.AR.mk 52 y3.1.1.a y3.1.1.b y3.1.1.c y3.1.1.d y7.1.1.text ((-1)*y15.1.1.n) y10.1.1 y3.1.1.at_) y16.2.1).bind G3)<|
 (IJ.k 3 y13.2.1).bind fun y15=>
 ck (Ap (1*y15.1.1.n))<|
 (DN.k ([59]:List UInt8) y15.2.1).bind fun y16=>
 (Cy.k (Dop.AR.mk 52 y3.1.1.a y3.1.1.b y3.1.1.c y3.1.1.d y7.1.1.text (1*y15.1.1.n) y10.1.1 y3.1.1.at_) y16.2.1).bind G3)<|
 (DN.k ([59]:List UInt8) y11.2.1).bind fun y13=>
 (Cy.k (Dop.AR.mk 52 y3.1.1.a y3.1.1.b y3.1.1.c y3.1.1.d y7.1.1.text y3.1.1.n y10.1.1 y3.1.1.at_) y13.2.1).bind G3)<|
 (Qw.k y4.2.1).bind fun y6=>
 (Cx.k ([40]:List UInt8) y6.2.1).bind fun y7=>
 ci y7.1.1 (tK.2.1 [] y7.2.1 (Dop.AR.mk 50 y3.1.1.a y3.1.1.b y3.1.1.c y3.1.1.d y6.1.1.text y3.1.1.n y6.1.1.AZ y3.1.1.at_))<|
 (Pn.k y6.1.1.AZ y7.2.1).bind fun y9=>
 (Cx.k ([61]:List UInt8) y9.2.1).bind fun y10=>
 ci y10.1.1 ((Cx.k ([45]:List UInt8) y10.2.1).bind fun y12=>
 ci y12.1.1 ((IJ.k 3 y12.2.1).bind fun y14=>
 ck (Ap ((-1)*y14.1.1.n))<|
 (DN.k ([59]:List UInt8) y14.2.1).bind fun y15=>
 (Cy.k (Dop.AR.mk 52 y3.1.1.a y3.1.1.b y3.1.1.c y3.1.1.d y6.1.1.text ((-1)*y14.1.1.n) y9.1.1 y3.1.1.at_) y15.2.1).bind G3)<|
 (IJ.k 3 y12.2.1).bind fun y14=>
 ck (Ap (1*y14.1.1.n))<|
 (DN.k ([59]:List UInt8) y14.2.1).bind fun y15=>
 (Cy.k (Dop.AR.mk 52 y3.1.1.a y3.1.1.b y3.1.1.c y3.1.1.d y6.1.1.text (1*y14.1.1.n) y9.1.1 y3.1.1.at_) y15.2.1).bind G3)<|
 (DN.k ([59]:List UInt8) y10.2.1).bind fun y12=>
 (Cy.k (Dop.AR.mk 52 y3.1.1.a y3.1.1.b y3.1.1.c y3.1.1.d y6.1.1.text y3.1.1.n y9.1.1 y3.1.1.at_) y12.2.1).bind G3
def IQ.k (k0:PS):R1 Int PS:=IQ.k0 (IQ.kL 1000000) k0
def IQ.Kc:=kd 46 IQ.p fun x=>IQ.k x.2.1
theorem IQ.Kh:IQ.Kc.Holds prog:=E7 AH (hc Eo.Kh (hc Fc.Kh (hc Mz.Kh (hc DN.Kh (hc IJ.Kh (hc Cx.Kh (hc Qw.Kh (hc Pn.Kh (hc Cy.Kh (hc Bq.Kh (hc G0.IL hn))))))))))) IQ.ok (fun t x=>IQ.k0 t x.2.1) (fun c=>(fun t4 k0 b1=>c 7 IQ.q7 rfl (((),(),t4,()),(k0,(b1,()),())),fun t7 k0 b1=>c 21 IQ.gn rfl (((),(),t7,()),(k0,(b1,()),())),())) IQ.kS (by kernel_rfl)
abbrev Tj.T:Type:=Int->List Dop.AR->List Dop.HN->Int->PS->Oe Dop.Fy Int Int
abbrev Tk.T:Type:=List Int->List Dop.AR->List Dop.HN->Int->PS->Oe Dop.Fy Int Int
abbrev m20.KT:Type:=Tj.T×Tk.T×Unit
def Tj.kB (tK:m20.KT):Tj.T:=fun t6 b0_0 b0_1 b0_2 k1=>
 ci (t6<=3) (ck (Cc none (room 40 (k1.types.length+(Dop.HN.mk t6 0 0 []::[]).length)))<|
 ck (Ap (t6+1))<|
 tK.1 (t6+1) b0_0 b0_1 b0_2 ((PS.UI k1 (k1.types++Dop.HN.mk t6 0 0 []::[]))))<|
 tK.2.1 [] b0_0 b0_1 b0_2 k1
def Tk.kB (tK:m20.KT):Tk.T:=fun t7 b0_0 b0_1 b0_2 k1=>
 ci (k1.e=0) ((Eo.k k1).bind fun y3=>
 ci (!(y3.1.1.kind=0)) ((IQ.k y3.2.1).bind fun y5=>
 ck (Cc none (room 8 (t7.length+(y5.1.1::[]).length)))<|
 tK.2.1 (t7++y5.1.1::[]) b0_0 b0_1 b0_2 y5.2.1)<|
 (Bq.k t7 y3.2.1).bind fun y5=>
 ci (!(PS.e y5.2.1=0)) (Ds (Dop.Fy.mk [] [] 0) (PS.when y5.2.1) (PS.e y5.2.1))<|
 Ds (Dop.Fy.mk (PS.nodes y5.2.1) (PS.types y5.2.1) y5.1.1) 0 0)<|
 (Bq.k t7 k1).bind fun y3=>
 ci (!(PS.e y3.2.1=0)) (Ds (Dop.Fy.mk [] [] 0) (PS.when y3.2.1) (PS.e y3.2.1))<|
 Ds (Dop.Fy.mk (PS.nodes y3.2.1) (PS.types y3.2.1) y3.1.1) 0 0
def m20.kS (tK:m20.KT):m20.KT:=(Tj.kB tK,Tk.kB tK,())
def m20.kL (n:Nat):m20.KT:=Cv m20.kS n
def m20.k0 (tK:m20.KT) (o:List Dop.Tok):Oe Dop.Fy Int Int:=
 tK.1 0 [] [] 0 ((o,0,[],[],0,0,0,0,()))
def m20.k (o:List Dop.Tok):Oe Dop.Fy Int Int:=m20.k0 (m20.kL 1000000) o
def m20.Kc:=kd 20 m20.p fun x=>m20.k x.1.1
theorem m20.Kh:m20.Kc.Holds prog:=E7 AH (hc Eo.Kh (hc IQ.Kh (hc Bq.Kh hn))) m20.ok (fun t x=>m20.k0 t x.1.1) (fun c=>(fun t6 b0_0 b0_1 b0_2 k1=>c 3 m20.q3 rfl (((),(),t6,()),((b0_0,b0_1,b0_2,()),k1,())),fun t7 b0_0 b0_1 b0_2 k1=>c 7 m20.q7 rfl (((),(),t7,()),((b0_0,b0_1,b0_2,()),k1,())),())) m20.kS (by kernel_rfl)
def XH.k (s:List UInt8):Oe Dop.Fy Int Int:=
 (m19.k s).bind fun y2=>
 ci (!(y2.1.2.2.1=0)) (Ds (Dop.Fy.mk [] [] 0) y2.1.2.1 y2.1.2.2.1)<|
 (m20.k y2.1.1).bind kN
def XH.Kc:=kd 41 XH.p fun x=>XH.k x.1.1
theorem XH.Kh:XH.Kc.Holds prog:=kh AH (hc m19.Kh (hc m20.Kh hn)) XH.ok (by kernel_rfl)
end
end Go.Proofs.Tryz
