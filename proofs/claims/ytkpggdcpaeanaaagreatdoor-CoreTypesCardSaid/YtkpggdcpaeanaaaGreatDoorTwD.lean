/-
 Functions in plain words (what their equations say), and their contracts. Written by a program.
-/
import Derived.Test.YtkpggdcpaeanaaaGreatDoorMr
import Derived.Test.YtkpggdcpaeanaaaGreatDoorMj
set_option maxRecDepth 100000
set_option maxHeartbeats 4000000
namespace Go.Proofs.Tryz
open Go Go.En
noncomputable section
def I1.k (k0:PS):R1 Int PS:=
 (DE.k ([40]:List UInt8) k0).bind fun y2=>
 (DU.k y2.2.1).bind fun y3=>
 (DE.k ([41]:List UInt8) y3.2.1).bind fun y4=>
 Cs y3.1.1 y4.2.1
def I1.Kc:=kd 206 I1.p fun x=>I1.k x.2.1
theorem I1.Kh:I1.Kc.Holds prog:=kh AJ (hc DE.Kh (hc DU.J1 hn)) I1.ok (by kernel_rfl)
def I2.k (s:List UInt8) (k0:PS):R1 Int PS:=
 (Cn.k s k0).bind fun y2=>
 ci y2.1.1 (Cs (-1) y2.2.1)<|
 (DU.k y2.2.1).bind fun y4=>
 (DE.k s y4.2.1).bind fun y5=>
 Cs y4.1.1 y5.2.1
def I2.Kc:=kd 207 I2.p fun x=>I2.k x.1.2.1 x.2.1
theorem I2.Kh:I2.Kc.Holds prog:=kh AJ (hc Cn.Kh (hc DU.J1 (hc DE.Kh hn))) I2.ok (by kernel_rfl)
def Lv.k (k0:PS):R1 Bool PS:=
 (ES.k k0).bind fun y2=>
 ci (y2.1.1.kind=1) (ck (Av (PS.at_ y2.2.1+1))<|
 ci (PS.at_ y2.2.1+1<I (PS.l y2.2.1).length) (ck (Av (PS.at_ y2.2.1+1))<|
 ck (0≤PS.at_ y2.2.1+1∧PS.at_ y2.2.1+1<I (PS.l y2.2.1).length)<|
 Cs (decide ((List.getD (PS.l y2.2.1) (PS.at_ y2.2.1+1).toNat Dop.d4).text=(58:UInt8)::[])) y2.2.1)<|
 Cs false y2.2.1)<|
 Cs false y2.2.1
def Lv.Kc:=kd 208 Lv.p fun x=>Lv.k x.2.1
theorem Lv.Kh:Lv.Kc.Holds prog:=kh AJ (hc ES.Kh hn) Lv.ok (by kernel_rfl)
abbrev GR.kr (r:Gj.T) (k0:PS):R1 Int PS:=r.1 (((),()),(k0,()))
abbrev Fu.kr (r:Gj.T) (k0:PS):R1 Int PS:=r.2.1 (((),()),(k0,()))
abbrev C1.kr (r:Gj.T) (k0:PS):R1 Int PS:=r.2.2.1 (((),(),()),(k0,()))
abbrev Sl.T:Type:=List Int→PS→Dop.Aa→R1 Int PS
abbrev GR.KT:Type:=Sl.T×Unit
def Sl.kB (rK:Gj.T) (tK:GR.KT):Sl.T:=fun l k0 b1=>
 (Cn.k ([125]:List UInt8) k0).bind fun y2=>
 ci (!y2.1.1) (ci (PS.e y2.2.1=0) ((Fu.kr rK y2.2.1).bind fun y5=>
 ck (Cj none (room 8 (l.length+(y5.1.1::[]).length)))<|
 tK.1 (l++y5.1.1::[]) y5.2.1 b1)<|
 (Bj.k l y2.2.1).bind fun y5=>
 (Co.k (Dop.Aa.mk b1.kind y5.1.1 b1.b b1.c b1.d b1.text b1.n b1.AW b1.at_) y5.2.1).bind Ga)<|
 (Bj.k l y2.2.1).bind fun y4=>
 (Co.k (Dop.Aa.mk b1.kind y4.1.1 b1.b b1.c b1.d b1.text b1.n b1.AW b1.at_) y4.2.1).bind Ga
def GR.kS (rK:Gj.T) (tK:GR.KT):GR.KT:=(Sl.kB rK tK,())
def GR.kL (rK:Gj.T) (n:Nat):GR.KT:=Eu (GR.kS rK) n
def GR.k0 (rK:Gj.T) (tK:GR.KT) (k0:PS):R1 Int PS:=
 (ES.k k0).bind fun y2=>
 (FA.k 43 y2.1.1.at_).bind fun y3=>
 (DE.k ([123]:List UInt8) y2.2.1).bind fun y4=>
 tK.1 [] y4.2.1 y3.1.1
def GR.kf (rK:Gj.T) (k0:PS):R1 Int PS:=GR.k0 rK (GR.kL rK 1000000) k0
def Fu.kf (rK:Gj.T) (k0:PS):R1 Int PS:=
 (C1.kr rK k0).bind Ga
abbrev Kp.T:Type:=PS→Dop.Aa→R1 Int PS
abbrev Kn.T:Type:=PS→Dop.Aa→R1 Int PS
abbrev Ko.T:Type:=Int→PS→Dop.Aa→R1 Int PS
abbrev Cl.KT:Type:=Kp.T×Kn.T×Ko.T×Unit
def Kp.kB (rK:Gj.T) (tK:Cl.KT):Kp.T:=fun k0 b1=>
 (Co.k b1 k0).bind Ga
def Kn.kB (rK:Gj.T) (tK:Cl.KT):Kn.T:=fun k0 b1=>
 (DE.k ([59]:List UInt8) k0).bind fun y2=>
 tK.1 y2.2.1 b1
def Ko.kB (rK:Gj.T) (tK:Cl.KT):Ko.T:=fun t4 k0 b1=>
 (Hk.k 3 k0).bind fun y2=>
 ck (Av (t4*y2.1.1.n))<|
 (DE.k ([58]:List UInt8) y2.2.1).bind fun y3=>
 (Fu.kr rK y3.2.1).bind fun y4=>
 tK.1 y4.2.1 (Dop.Aa.mk b1.kind y4.1.1 b1.b b1.c b1.d b1.text (t4*y2.1.1.n) b1.AW b1.at_)
def Cl.kS (rK:Gj.T) (tK:Cl.KT):Cl.KT:=(Kp.kB rK tK,Kn.kB rK tK,Ko.kB rK tK,())
def Cl.kL (rK:Gj.T) (n:Nat):Cl.KT:=Eu (Cl.kS rK) n
def Cl.k0 (rK:Gj.T) (tK:Cl.KT) (k0:PS):R1 Int PS:=
 (ES.k k0).bind fun y2=>
 (FA.k 44 y2.1.1.at_).bind fun y3=>
 (Lz.k ([123]:List UInt8) y2.2.1).bind fun y4=>
 ci y4.1.1 ((GR.kr rK y4.2.1).bind Ga)<|
 (Cn.k ([59]:List UInt8) y4.2.1).bind fun y6=>
 ci y6.1.1 (tK.1 y6.2.1 y3.1.1)<|
 (Lu.k y6.2.1).bind fun y8=>
 ci y8.1.1 ((DD.k y8.2.1).bind fun y10=>
 (Hk.k 1 y10.2.1).bind fun y11=>
 (OZ.k y10.1.1 y11.2.1).bind fun y12=>
 (Cn.k ([61]:List UInt8) y12.2.1).bind fun y13=>
 ci y13.1.1 ((DU.k y13.2.1).bind fun y15=>
 tK.2.1 y15.2.1 (Dop.Aa.mk 45 y15.1.1 y3.1.1.b y3.1.1.c y3.1.1.d y11.1.1.text y3.1.1.n y12.1.1 y3.1.1.at_))<|
 tK.2.1 y13.2.1 (Dop.Aa.mk 45 y3.1.1.a y3.1.1.b y3.1.1.c y3.1.1.d y11.1.1.text y3.1.1.n y12.1.1 y3.1.1.at_))<|
 (Cn.k ([105,102]:List UInt8) y8.2.1).bind fun y10=>
 ci y10.1.1 ((I1.k y10.2.1).bind fun y12=>
 (Fu.kr rK y12.2.1).bind fun y13=>
 (Cn.k ([101,108,115,101]:List UInt8) y13.2.1).bind fun y14=>
 ci y14.1.1 ((Fu.kr rK y14.2.1).bind fun y16=>
 tK.1 y16.2.1 (Dop.Aa.mk 31 y12.1.1 y13.1.1 y16.1.1 y3.1.1.d y3.1.1.text y3.1.1.n y3.1.1.AW y3.1.1.at_))<|
 tK.1 y14.2.1 (Dop.Aa.mk 31 y12.1.1 y13.1.1 y3.1.1.c y3.1.1.d y3.1.1.text y3.1.1.n y3.1.1.AW y3.1.1.at_))<|
 (Cn.k ([119,104,105,108,101]:List UInt8) y10.2.1).bind fun y12=>
 ci y12.1.1 ((I1.k y12.2.1).bind fun y14=>
 (Fu.kr rK y14.2.1).bind fun y15=>
 tK.1 y15.2.1 (Dop.Aa.mk 32 y14.1.1 y15.1.1 y3.1.1.c y3.1.1.d y3.1.1.text y3.1.1.n y3.1.1.AW y3.1.1.at_))<|
 (Cn.k ([100,111]:List UInt8) y12.2.1).bind fun y14=>
 ci y14.1.1 ((Fu.kr rK y14.2.1).bind fun y16=>
 (DE.k ([119,104,105,108,101]:List UInt8) y16.2.1).bind fun y17=>
 (I1.k y17.2.1).bind fun y18=>
 (DE.k ([59]:List UInt8) y18.2.1).bind fun y19=>
 tK.1 y19.2.1 (Dop.Aa.mk 33 y18.1.1 y16.1.1 y3.1.1.c y3.1.1.d y3.1.1.text y3.1.1.n y3.1.1.AW y3.1.1.at_))<|
 (Cn.k ([102,111,114]:List UInt8) y14.2.1).bind fun y16=>
 ci y16.1.1 ((DE.k ([40]:List UInt8) y16.2.1).bind fun y18=>
 (I2.k ([59]:List UInt8) y18.2.1).bind fun y19=>
 (I2.k ([59]:List UInt8) y19.2.1).bind fun y20=>
 (I2.k ([41]:List UInt8) y20.2.1).bind fun y21=>
 (Fu.kr rK y21.2.1).bind fun y22=>
 tK.1 y22.2.1 (Dop.Aa.mk 34 y19.1.1 y20.1.1 y21.1.1 y22.1.1 y3.1.1.text y3.1.1.n y3.1.1.AW y3.1.1.at_))<|
 (Cn.k ([98,114,101,97,107]:List UInt8) y16.2.1).bind fun y18=>
 ci y18.1.1 ((DE.k ([59]:List UInt8) y18.2.1).bind fun y20=>
 tK.1 y20.2.1 (Dop.Aa.mk 35 y3.1.1.a y3.1.1.b y3.1.1.c y3.1.1.d y3.1.1.text y3.1.1.n y3.1.1.AW y3.1.1.at_))<|
 (Cn.k ([99,111,110,116,105,110,117,101]:List UInt8) y18.2.1).bind fun y20=>
 ci y20.1.1 ((DE.k ([59]:List UInt8) y20.2.1).bind fun y22=>
 tK.1 y22.2.1 (Dop.Aa.mk 36 y3.1.1.a y3.1.1.b y3.1.1.c y3.1.1.d y3.1.1.text y3.1.1.n y3.1.1.AW y3.1.1.at_))<|
 (Cn.k ([114,101,116,117,114,110]:List UInt8) y20.2.1).bind fun y22=>
 ci y22.1.1 ((I2.k ([59]:List UInt8) y22.2.1).bind fun y24=>
 tK.1 y24.2.1 (Dop.Aa.mk 37 y24.1.1 y3.1.1.b y3.1.1.c y3.1.1.d y3.1.1.text y3.1.1.n y3.1.1.AW y3.1.1.at_))<|
 (Cn.k ([103,111,116,111]:List UInt8) y22.2.1).bind fun y24=>
 ci y24.1.1 ((Hk.k 1 y24.2.1).bind fun y26=>
 (DE.k ([59]:List UInt8) y26.2.1).bind fun y27=>
 tK.1 y27.2.1 (Dop.Aa.mk 38 y3.1.1.a y3.1.1.b y3.1.1.c y3.1.1.d y26.1.1.text y3.1.1.n y3.1.1.AW y3.1.1.at_))<|
 (Cn.k ([115,119,105,116,99,104]:List UInt8) y24.2.1).bind fun y26=>
 ci y26.1.1 ((I1.k y26.2.1).bind fun y28=>
 (GR.kr rK y28.2.1).bind fun y29=>
 tK.1 y29.2.1 (Dop.Aa.mk 40 y28.1.1 y29.1.1 y3.1.1.c y3.1.1.d y3.1.1.text y3.1.1.n y3.1.1.AW y3.1.1.at_))<|
 (Cn.k ([99,97,115,101]:List UInt8) y26.2.1).bind fun y28=>
 ci y28.1.1 ((Cn.k ([45]:List UInt8) y28.2.1).bind fun y30=>
 ci y30.1.1 (tK.2.2.1 ((-1)) y30.2.1 (Dop.Aa.mk 41 y3.1.1.a y3.1.1.b y3.1.1.c y3.1.1.d y3.1.1.text y3.1.1.n y3.1.1.AW y3.1.1.at_))<|
 tK.2.2.1 1 y30.2.1 (Dop.Aa.mk 41 y3.1.1.a y3.1.1.b y3.1.1.c y3.1.1.d y3.1.1.text y3.1.1.n y3.1.1.AW y3.1.1.at_))<|
 (Cn.k ([100,101,102,97,117,108,116]:List UInt8) y28.2.1).bind fun y30=>
 ci y30.1.1 ((DE.k ([58]:List UInt8) y30.2.1).bind fun y32=>
 (Fu.kr rK y32.2.1).bind fun y33=>
 tK.1 y33.2.1 (Dop.Aa.mk 42 y33.1.1 y3.1.1.b y3.1.1.c y3.1.1.d y3.1.1.text y3.1.1.n y3.1.1.AW y3.1.1.at_))<|
 (Lv.k y30.2.1).bind fun y32=>
 ci y32.1.1 ((Hk.k 1 y32.2.1).bind fun y34=>
 (DE.k ([58]:List UInt8) y34.2.1).bind fun y35=>
 (Fu.kr rK y35.2.1).bind fun y36=>
 tK.1 y36.2.1 (Dop.Aa.mk 39 y36.1.1 y3.1.1.b y3.1.1.c y3.1.1.d y34.1.1.text y3.1.1.n y3.1.1.AW y3.1.1.at_))<|
 (DU.k y32.2.1).bind fun y34=>
 (DE.k ([59]:List UInt8) y34.2.1).bind fun y35=>
 tK.1 y35.2.1 (Dop.Aa.mk 30 y34.1.1 y3.1.1.b y3.1.1.c y3.1.1.d y3.1.1.text y3.1.1.n y3.1.1.AW y3.1.1.at_)
def Cl.kf (rK:Gj.T) (k0:PS):R1 Int PS:=Cl.k0 rK (Cl.kL rK 1000000) k0
def Gj.kS (r:Gj.T):Gj.T:=(fun x=>GR.kf r x.2.1,fun x=>Fu.kf r x.2.1,fun x=>within r.2.2.2.1 x.2.1,fun x=>Cl.kf r x.2.1,())
def Gj.kR (n:Nat):Gj.T:=Eu Gj.kS n
def GR.Kc (n:Nat):=kd 98 GR.p (Gj.kR n).1
def GR.QZ:=GR.Kc FU
def GR.k:=GR.kr (Gj.kR FU)
def Fu.Kc (n:Nat):=kd 145 Fu.p (Gj.kR n).2.1
def C1.Kc (n:Nat):=kd 180 C1.p (Gj.kR n).2.2.1
abbrev Cl.kq (n:Nat):((Unit×Unit)×(PS×Unit))→Option ((Int×Unit)×(PS×Unit)):=(Gj.kR n).2.2.2.1
def Cl.Kc (n:Nat):=kd 181 Cl.p (Gj.kR n).2.2.2.1
def Gj.UJ (n:Nat):List (Bw Dop.D4):=[GR.Kc n,Fu.Kc n,C1.Kc n,Cl.Kc n]
theorem Gj.Gg: ∀ n,(GR.Kc n).Holds prog∧(Fu.Kc n).Holds prog∧(C1.Kc n).Holds prog∧(Cl.Kc n).Holds prog∧True
 | 0=>⟨Ae AJ GR.ok,Ae AJ Fu.ok,Ae AJ (by kernel_rfl),Ae AJ Cl.ok,trivial⟩
 | n+1=>by
  obtain ⟨h0,h1,h2,h3,_⟩:=Gj.Gg n
  have hh: ∀ c∈Gj.UJ n,c.Holds prog:=(hc h0 (hc h1 (hc h2 (hc h3 hn))))
  exact ⟨GG AJ (BA hh (hc ES.Kh (hc FA.Kh (hc DE.Kh (hc Cn.Kh (hc Bj.Kh (hc Co.Kh hn))))))) GR.ok (fun t x=>GR.k0 (Gj.kR n) t x.2.1) (fun c=>(fun l k0 b1=>c 4 GR.q4 rfl (((),(),l,()),(k0,(b1,()),())),())) (GR.kS (Gj.kR n)) (by kernel_rfl),
   kh AJ (BA hh hn) Fu.ok (by kernel_rfl),
   (Bl.holds (m:=Cl.kq n) h3),
   GG AJ (BA hh (hc ES.Kh (hc FA.Kh (hc Lz.Kh (hc Cn.Kh (hc Lu.Kh (hc DD.Kh (hc Hk.Kh (hc OZ.Kh (hc DU.J1 (hc DE.Kh (hc I1.Kh (hc I2.Kh (hc Lv.Kh (hc Co.Kh hn))))))))))))))) Cl.ok (fun t x=>Cl.k0 (Gj.kR n) t x.2.1) (fun c=>(fun k0 b1=>c 64 Cl.iH rfl (((),(),()),(k0,(b1,()),())),fun k0 b1=>c 13 Cl.WY rfl (((),(),()),(k0,(b1,()),())),fun t4 k0 b1=>c 53 Cl.iG rfl (((),(),t4,()),(k0,(b1,()),())),())) (Cl.kS (Gj.kR n)) (by kernel_rfl),
   trivial⟩
theorem GR.J1:GR.QZ.Holds prog:=(Gj.Gg FU).1
abbrev Sd.T:Type:=List Int→PS→Dop.Aa→R1 Int PS
abbrev OU.T:Type:=List Int→PS→Dop.Aa→R1 Int PS
abbrev Hp.KT:Type:=Sd.T×OU.T×Unit
def Sd.kB (tK:Hp.KT):Sd.T:=fun t4 k0 b1=>
 ci (I t4.length=0) ((Pt.k k0).bind fun y3=>
 (OZ.k y3.1.1.AW y3.2.1).bind fun y4=>
 (DE.k ([59]:List UInt8) y4.2.1).bind fun y5=>
 (Co.k (Dop.Aa.mk y3.1.1.kind y3.1.1.a y3.1.1.b y3.1.1.c y3.1.1.d y3.1.1.text y3.1.1.n y4.1.1 y3.1.1.at_) y5.2.1).bind fun y6=>
 ck (Cj none (room 8 (t4.length+(y6.1.1::[]).length)))<|
 ci (!(PS.e y6.2.1=0)) (Cs (-1) y6.2.1)<|
 tK.1 (t4++y6.1.1::[]) y6.2.1 b1)<|
 (Cn.k ([125]:List UInt8) k0).bind fun y3=>
 ci (!y3.1.1) (ci (PS.e y3.2.1=0) ((Pt.k y3.2.1).bind fun y6=>
 (OZ.k y6.1.1.AW y6.2.1).bind fun y7=>
 (DE.k ([59]:List UInt8) y7.2.1).bind fun y8=>
 (Co.k (Dop.Aa.mk y6.1.1.kind y6.1.1.a y6.1.1.b y6.1.1.c y6.1.1.d y6.1.1.text y6.1.1.n y7.1.1 y6.1.1.at_) y8.2.1).bind fun y9=>
 ck (Cj none (room 8 (t4.length+(y9.1.1::[]).length)))<|
 ci (!(PS.e y9.2.1=0)) (Cs (-1) y9.2.1)<|
 tK.1 (t4++y9.1.1::[]) y9.2.1 b1)<|
 (DE.k ([59]:List UInt8) y3.2.1).bind fun y6=>
 (Bj.k t4 y6.2.1).bind fun y7=>
 (Co.k (Dop.Aa.mk b1.kind y7.1.1 b1.b b1.c b1.d b1.text b1.n b1.AW b1.at_) y7.2.1).bind Ga)<|
 (DE.k ([59]:List UInt8) y3.2.1).bind fun y5=>
 (Bj.k t4 y5.2.1).bind fun y6=>
 (Co.k (Dop.Aa.mk b1.kind y6.1.1 b1.b b1.c b1.d b1.text b1.n b1.AW b1.at_) y6.2.1).bind Ga
def OU.kB (tK:Hp.KT):OU.T:=fun t7 k0 b1=>
 (Cn.k ([41]:List UInt8) k0).bind fun y2=>
 ci (!y2.1.1) (ci (PS.e y2.2.1=0) (ci (0<I t7.length) ((DE.k ([44]:List UInt8) y2.2.1).bind fun y6=>
 (Pt.k y6.2.1).bind fun y7=>
 (Co.k y7.1.1 y7.2.1).bind fun y8=>
 ck (Cj none (room 8 (t7.length+(y8.1.1::[]).length)))<|
 tK.2.1 (t7++y8.1.1::[]) y8.2.1 b1)<|
 (Pt.k y2.2.1).bind fun y6=>
 (Co.k y6.1.1 y6.2.1).bind fun y7=>
 ck (Cj none (room 8 (t7.length+(y7.1.1::[]).length)))<|
 tK.2.1 (t7++y7.1.1::[]) y7.2.1 b1)<|
 (Bj.k t7 y2.2.1).bind fun y5=>
 (GR.k y5.2.1).bind fun y6=>
 (Co.k (Dop.Aa.mk b1.kind y5.1.1 y6.1.1 b1.c b1.d b1.text b1.n b1.AW b1.at_) y6.2.1).bind Ga)<|
 (Bj.k t7 y2.2.1).bind fun y4=>
 (GR.k y4.2.1).bind fun y5=>
 (Co.k (Dop.Aa.mk b1.kind y4.1.1 y5.1.1 b1.c b1.d b1.text b1.n b1.AW b1.at_) y5.2.1).bind Ga
def Hp.kS (tK:Hp.KT):Hp.KT:=(Sd.kB tK,OU.kB tK,())
def Hp.kL (n:Nat):Hp.KT:=Eu Hp.kS n
def Hp.k0 (tK:Hp.KT) (k0:PS):R1 Int PS:=
 (ES.k k0).bind fun y2=>
 (FA.k 53 y2.1.1.at_).bind fun y3=>
 (Lz.k ([115,116,114,117,99,116]:List UInt8) y2.2.1).bind fun y4=>
 ci y4.1.1 (ck (Av (PS.at_ y4.2.1+2))<|
 ci (PS.at_ y4.2.1+2<I (PS.l y4.2.1).length) (ck (Av (PS.at_ y4.2.1+2))<|
 ck (0≤PS.at_ y4.2.1+2∧PS.at_ y4.2.1+2<I (PS.l y4.2.1).length)<|
 ci ((List.getD (PS.l y4.2.1) (PS.at_ y4.2.1+2).toNat Dop.d4).text=(123:UInt8)::[]) ((DE.k ([115,116,114,117,99,116]:List UInt8) y4.2.1).bind fun y8=>
 (Hk.k 1 y8.2.1).bind fun y9=>
 (DE.k ([123]:List UInt8) y9.2.1).bind fun y10=>
 tK.1 [] y10.2.1 (Dop.Aa.mk y3.1.1.kind y3.1.1.a y3.1.1.b y3.1.1.c y3.1.1.d y9.1.1.text y3.1.1.n y3.1.1.AW y3.1.1.at_))<|
 (Pt.k y4.2.1).bind fun y8=>
 (Cn.k ([40]:List UInt8) y8.2.1).bind fun y9=>
 ci y9.1.1 (tK.2.1 [] y9.2.1 (Dop.Aa.mk 50 y3.1.1.a y3.1.1.b y3.1.1.c y3.1.1.d y8.1.1.text y3.1.1.n y8.1.1.AW y3.1.1.at_))<|
 (OZ.k y8.1.1.AW y9.2.1).bind fun y11=>
 (Cn.k ([61]:List UInt8) y11.2.1).bind fun y12=>
 ci y12.1.1 ((Cn.k ([45]:List UInt8) y12.2.1).bind fun y14=>
 ci y14.1.1 ((Hk.k 3 y14.2.1).bind fun y16=>
 ck (Av ((-1)*y16.1.1.n))<|
 (DE.k ([59]:List UInt8) y16.2.1).bind fun y17=>
 (Co.k (Dop.Aa.mk 52 y3.1.1.a y3.1.1.b y3.1.1.c y3.1.1.d y8.1.1.text ((-1)*y16.1.1.n) y11.1.1 y3.1.1.at_) y17.2.1).bind Ga)<|
 (Hk.k 3 y14.2.1).bind fun y16=>
 ck (Av (1*y16.1.1.n))<|
 (DE.k ([59]:List UInt8) y16.2.1).bind fun y17=>
 (Co.k (Dop.Aa.mk 52 y3.1.1.a y3.1.1.b y3.1.1.c y3.1.1.d y8.1.1.text (1*y16.1.1.n) y11.1.1 y3.1.1.at_) y17.2.1).bind Ga)<|
 (DE.k ([59]:List UInt8) y12.2.1).bind fun y14=>
 (Co.k (Dop.Aa.mk 52 y3.1.1.a y3.1.1.b y3.1.1.c y3.1.1.d y8.1.1.text y3.1.1.n y11.1.1 y3.1.1.at_) y14.2.1).bind Ga)<|
 (Pt.k y4.2.1).bind fun y7=>
 (Cn.k ([40]:List UInt8) y7.2.1).bind fun y8=>
 ci y8.1.1 (tK.2.1 [] y8.2.1 (Dop.Aa.mk 50 y3.1.1.a y3.1.1.b y3.1.1.c y3.1.1.d y7.1.1.text y3.1.1.n y7.1.1.AW y3.1.1.at_))<|
 (OZ.k y7.1.1.AW y8.2.1).bind fun y10=>
 (Cn.k ([61]:List UInt8) y10.2.1).bind fun y11=>
 ci y11.1.1 ((Cn.k ([45]:List UInt8) y11.2.1).bind fun y13=>
 ci y13.1.1 ((Hk.k 3 y13.2.1).bind fun y15=>
 ck (Av ((-1)*y15.1.1.n))<|
 (DE.k ([59]:List UInt8) y15.2.1).bind fun y16=>
 (Co.k (Dop.Aa.mk 52 y3.1.1.a y3.1.1.b y3.1.1.c y3.1.1.d y7.1.1.text ((-1)*y15.1.1.n) y10.1.1 y3.1.1.at_) y16.2.1).bind Ga)<|
 (Hk.k 3 y13.2.1).bind fun y15=>
 ck (Av (1*y15.1.1.n))<|
 (DE.k ([59]:List UInt8) y15.2.1).bind fun y16=>
 (Co.k (Dop.Aa.mk 52 y3.1.1.a y3.1.1.b y3.1.1.c y3.1.1.d y7.1.1.text (1*y15.1.1.n) y10.1.1 y3.1.1.at_) y16.2.1).bind Ga)<|
 (DE.k ([59]:List UInt8) y11.2.1).bind fun y13=>
 (Co.k (Dop.Aa.mk 52 y3.1.1.a y3.1.1.b y3.1.1.c y3.1.1.d y7.1.1.text y3.1.1.n y10.1.1 y3.1.1.at_) y13.2.1).bind Ga)<|
 (Pt.k y4.2.1).bind fun y6=>
 (Cn.k ([40]:List UInt8) y6.2.1).bind fun y7=>
 ci y7.1.1 (tK.2.1 [] y7.2.1 (Dop.Aa.mk 50 y3.1.1.a y3.1.1.b y3.1.1.c y3.1.1.d y6.1.1.text y3.1.1.n y6.1.1.AW y3.1.1.at_))<|
 (OZ.k y6.1.1.AW y7.2.1).bind fun y9=>
 (Cn.k ([61]:List UInt8) y9.2.1).bind fun y10=>
 ci y10.1.1 ((Cn.k ([45]:List UInt8) y10.2.1).bind fun y12=>
 ci y12.1.1 ((Hk.k 3 y12.2.1).bind fun y14=>
 ck (Av ((-1)*y14.1.1.n))<|
 (DE.k ([59]:List UInt8) y14.2.1).bind fun y15=>
 (Co.k (Dop.Aa.mk 52 y3.1.1.a y3.1.1.b y3.1.1.c y3.1.1.d y6.1.1.text ((-1)*y14.1.1.n) y9.1.1 y3.1.1.at_) y15.2.1).bind Ga)<|
 (Hk.k 3 y12.2.1).bind fun y14=>
 ck (Av (1*y14.1.1.n))<|
 (DE.k ([59]:List UInt8) y14.2.1).bind fun y15=>
 (Co.k (Dop.Aa.mk 52 y3.1.1.a y3.1.1.b y3.1.1.c y3.1.1.d y6.1.1.text (1*y14.1.1.n) y9.1.1 y3.1.1.at_) y15.2.1).bind Ga)<|
 (DE.k ([59]:List UInt8) y10.2.1).bind fun y12=>
 (Co.k (Dop.Aa.mk 52 y3.1.1.a y3.1.1.b y3.1.1.c y3.1.1.d y6.1.1.text y3.1.1.n y9.1.1 y3.1.1.at_) y12.2.1).bind Ga
def Hp.k (k0:PS):R1 Int PS:=Hp.k0 (Hp.kL 1000000) k0
def Hp.Kc:=kd 46 Hp.p fun x=>Hp.k x.2.1
theorem Hp.Kh:Hp.Kc.Holds prog:=GG AJ (hc ES.Kh (hc FA.Kh (hc Lz.Kh (hc DE.Kh (hc Hk.Kh (hc Cn.Kh (hc Pt.Kh (hc OZ.Kh (hc Co.Kh (hc Bj.Kh (hc GR.J1 hn))))))))))) Hp.ok (fun t x=>Hp.k0 t x.2.1) (fun c=>(fun t4 k0 b1=>c 7 Hp.q7 rfl (((),(),t4,()),(k0,(b1,()),())),fun t7 k0 b1=>c 21 Hp.hU rfl (((),(),t7,()),(k0,(b1,()),())),())) Hp.kS (by kernel_rfl)
abbrev SZ.T:Type:=Int→List Dop.Aa→List Dop.Gr→Int→PS→QV Dop.FV Int Int
abbrev Sa.T:Type:=List Int→List Dop.Aa→List Dop.Gr→Int→PS→QV Dop.FV Int Int
abbrev m20.KT:Type:=SZ.T×Sa.T×Unit
def SZ.kB (tK:m20.KT):SZ.T:=fun t6 b0_0 b0_1 b0_2 k1=>
 ci (t6≤3) (ck (Cj none (room 40 (k1.types.length+(Dop.Gr.mk t6 0 0 []::[]).length)))<|
 ck (Av (t6+1))<|
 tK.1 (t6+1) b0_0 b0_1 b0_2 ((PS.S6 k1 (k1.types++Dop.Gr.mk t6 0 0 []::[]))))<|
 tK.2.1 [] b0_0 b0_1 b0_2 k1
def Sa.kB (tK:m20.KT):Sa.T:=fun t7 b0_0 b0_1 b0_2 k1=>
 ci (k1.e=0) ((ES.k k1).bind fun y3=>
 ci (!(y3.1.1.kind=0)) ((Hp.k y3.2.1).bind fun y5=>
 ck (Cj none (room 8 (t7.length+(y5.1.1::[]).length)))<|
 tK.2.1 (t7++y5.1.1::[]) b0_0 b0_1 b0_2 y5.2.1)<|
 (Bj.k t7 y3.2.1).bind fun y5=>
 ci (!(PS.e y5.2.1=0)) (S0 (Dop.FV.mk [] [] 0) (PS.when y5.2.1) (PS.e y5.2.1))<|
 S0 (Dop.FV.mk (PS.nodes y5.2.1) (PS.types y5.2.1) y5.1.1) 0 0)<|
 (Bj.k t7 k1).bind fun y3=>
 ci (!(PS.e y3.2.1=0)) (S0 (Dop.FV.mk [] [] 0) (PS.when y3.2.1) (PS.e y3.2.1))<|
 S0 (Dop.FV.mk (PS.nodes y3.2.1) (PS.types y3.2.1) y3.1.1) 0 0
def m20.kS (tK:m20.KT):m20.KT:=(SZ.kB tK,Sa.kB tK,())
def m20.kL (n:Nat):m20.KT:=Eu m20.kS n
def m20.k0 (tK:m20.KT) (o:List Dop.Tok):QV Dop.FV Int Int:=
 tK.1 0 [] [] 0 ((o,0,[],[],0,0,0,0,()))
def m20.k (o:List Dop.Tok):QV Dop.FV Int Int:=m20.k0 (m20.kL 1000000) o
def m20.Kc:=kd 20 m20.p fun x=>m20.k x.1.1
theorem m20.Kh:m20.Kc.Holds prog:=GG AJ (hc ES.Kh (hc Hp.Kh (hc Bj.Kh hn))) m20.ok (fun t x=>m20.k0 t x.1.1) (fun c=>(fun t6 b0_0 b0_1 b0_2 k1=>c 3 m20.q3 rfl (((),(),t6,()),((b0_0,b0_1,b0_2,()),k1,())),fun t7 b0_0 b0_1 b0_2 k1=>c 7 m20.q7 rfl (((),(),t7,()),((b0_0,b0_1,b0_2,()),k1,())),())) m20.kS (by kernel_rfl)
def Vx.k (s:List UInt8):QV Dop.FV Int Int:=
 (m19.k s).bind fun y2=>
 ci (!(y2.1.2.2.1=0)) (S0 (Dop.FV.mk [] [] 0) y2.1.2.1 y2.1.2.2.1)<|
 (m20.k y2.1.1).bind hO
def Vx.Kc:=kd 41 Vx.p fun x=>Vx.k x.1.1
theorem Vx.Kh:Vx.Kc.Holds prog:=kh AJ (hc m19.Kh (hc m20.Kh hn)) Vx.ok (by kernel_rfl)
end
end Go.Proofs.Tryz
