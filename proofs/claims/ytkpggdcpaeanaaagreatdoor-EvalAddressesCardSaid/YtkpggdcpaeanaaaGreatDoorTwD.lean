/-
 Functions in plain words (what their equations say), and their contracts. Written by a program.
-/
import Derived.Test.YtkpggdcpaeanaaaGreatDoorMr
import Derived.Test.YtkpggdcpaeanaaaGreatDoorMj
set_option linter.all false
set_option maxRecDepth 100000
set_option maxHeartbeats 4000000
namespace Go.Proofs.Tryz
open Go Go.En
noncomputable section
def JZ.k (k0:PS):R1 Int PS:=
 (DG.k ([40]:List UInt8) k0).bind fun y2=>
 (DV.k y2.2.1).bind fun y3=>
 (DG.k ([41]:List UInt8) y3.2.1).bind fun y4=>
 CJ y3.1.1 y4.2.1
def JZ.Kc:=kd 206 JZ.p fun x=>JZ.k x.2.1
theorem JZ.Kh:JZ.Kc.Holds prog:=kh AH (hc DG.Kh (hc DV.ID hn)) JZ.ok (by kernel_rfl)
def Ja.k (s:List UInt8) (k0:PS):R1 Int PS:=
 (Cm.k s k0).bind fun y2=>
 ci y2.1.1 (CJ (-1) y2.2.1)<|
 (DV.k y2.2.1).bind fun y4=>
 (DG.k s y4.2.1).bind fun y5=>
 CJ y4.1.1 y5.2.1
def Ja.Kc:=kd 207 Ja.p fun x=>Ja.k x.1.2.1 x.2.1
theorem Ja.Kh:Ja.Kc.Holds prog:=kh AH (hc Cm.Kh (hc DV.ID (hc DG.Kh hn))) Ja.ok (by kernel_rfl)
def Mh.k (k0:PS):R1 Bool PS:=
 (ET.k k0).bind fun y2=>
 ci (y2.1.1.kind=1) (ck (Au (PS.at_ y2.2.1+1))<|
 ci (PS.at_ y2.2.1+1<I (PS.l y2.2.1).length) (ck (Au (PS.at_ y2.2.1+1))<|
 ck (0<=PS.at_ y2.2.1+1/\PS.at_ y2.2.1+1<I (PS.l y2.2.1).length)<|
 CJ (decide ((List.getD (PS.l y2.2.1) (PS.at_ y2.2.1+1).toNat Dop.d4).text=(58:UInt8)::[])) y2.2.1)<|
 CJ false y2.2.1)<|
 CJ false y2.2.1
def Mh.Kc:=kd 208 Mh.p fun x=>Mh.k x.2.1
theorem Mh.Kh:Mh.Kc.Holds prog:=kh AH (hc ET.Kh hn) Mh.ok (by kernel_rfl)
abbrev Ge.kr (r:Gs.T) (k0:PS):R1 Int PS:=r.1 (((),()),(k0,()))
abbrev F3.kr (r:Gs.T) (k0:PS):R1 Int PS:=r.2.1 (((),()),(k0,()))
abbrev C1.kr (r:Gs.T) (k0:PS):R1 Int PS:=r.2.2.1 (((),(),()),(k0,()))
abbrev Tp.T:Type:=List Int->PS->Dop.AU->R1 Int PS
abbrev Ge.KT:Type:=Tp.T×Unit
def Tp.kB (rK:Gs.T) (tK:Ge.KT):Tp.T:=fun l k0 b1=>
 (Cm.k ([125]:List UInt8) k0).bind fun y2=>
 ci (!y2.1.1) (ci (PS.e y2.2.1=0) ((F3.kr rK y2.2.1).bind fun y5=>
 ck (Cq none (room 8 (l.length+(y5.1.1::[]).length)))<|
 tK.1 (l++y5.1.1::[]) y5.2.1 b1)<|
 (Bg.k l y2.2.1).bind fun y5=>
 (Cn.k (Dop.AU.mk b1.kind y5.1.1 b1.b b1.c b1.d b1.text b1.n b1.Ad b1.at_) y5.2.1).bind Gh)<|
 (Bg.k l y2.2.1).bind fun y4=>
 (Cn.k (Dop.AU.mk b1.kind y4.1.1 b1.b b1.c b1.d b1.text b1.n b1.Ad b1.at_) y4.2.1).bind Gh
def Ge.kS (rK:Gs.T) (tK:Ge.KT):Ge.KT:=(Tp.kB rK tK,())
def Ge.kL (rK:Gs.T) (n:Nat):Ge.KT:=DA (Ge.kS rK) n
def Ge.k0 (rK:Gs.T) (tK:Ge.KT) (k0:PS):R1 Int PS:=
 (ET.k k0).bind fun y2=>
 (FJ.k 43 y2.1.1.at_).bind fun y3=>
 (DG.k ([123]:List UInt8) y2.2.1).bind fun y4=>
 tK.1 [] y4.2.1 y3.1.1
def Ge.kf (rK:Gs.T) (k0:PS):R1 Int PS:=Ge.k0 rK (Ge.kL rK 1000000) k0
def F3.kf (rK:Gs.T) (k0:PS):R1 Int PS:=
 (C1.kr rK k0).bind Gh
abbrev LN.T:Type:=PS->Dop.AU->R1 Int PS
abbrev LL.T:Type:=PS->Dop.AU->R1 Int PS
abbrev LM.T:Type:=Int->PS->Dop.AU->R1 Int PS
abbrev Ck.KT:Type:=LN.T×LL.T×LM.T×Unit
def LN.kB (rK:Gs.T) (tK:Ck.KT):LN.T:=fun k0 b1=>
 (Cn.k b1 k0).bind Gh
def LL.kB (rK:Gs.T) (tK:Ck.KT):LL.T:=fun k0 b1=>
 (DG.k ([59]:List UInt8) k0).bind fun y2=>
 tK.1 y2.2.1 b1
def LM.kB (rK:Gs.T) (tK:Ck.KT):LM.T:=fun t4 k0 b1=>
 (IB.k 3 k0).bind fun y2=>
 ck (Au (t4*y2.1.1.n))<|
 (DG.k ([58]:List UInt8) y2.2.1).bind fun y3=>
 (F3.kr rK y3.2.1).bind fun y4=>
 tK.1 y4.2.1 (Dop.AU.mk b1.kind y4.1.1 b1.b b1.c b1.d b1.text (t4*y2.1.1.n) b1.Ad b1.at_)
def Ck.kS (rK:Gs.T) (tK:Ck.KT):Ck.KT:=(LN.kB rK tK,LL.kB rK tK,LM.kB rK tK,())
def Ck.kL (rK:Gs.T) (n:Nat):Ck.KT:=DA (Ck.kS rK) n
def Ck.k0 (rK:Gs.T) (tK:Ck.KT) (k0:PS):R1 Int PS:=
 (ET.k k0).bind fun y2=>
 (FJ.k 44 y2.1.1.at_).bind fun y3=>
 (Mq.k ([123]:List UInt8) y2.2.1).bind fun y4=>
 ci y4.1.1 ((Ge.kr rK y4.2.1).bind Gh)<|
 (Cm.k ([59]:List UInt8) y4.2.1).bind fun y6=>
 ci y6.1.1 (tK.1 y6.2.1 y3.1.1)<|
 (Mg.k y6.2.1).bind fun y8=>
 ci y8.1.1 ((DE.k y8.2.1).bind fun y10=>
 (IB.k 1 y10.2.1).bind fun y11=>
 (PZ.k y10.1.1 y11.2.1).bind fun y12=>
 (Cm.k ([61]:List UInt8) y12.2.1).bind fun y13=>
 ci y13.1.1 ((DV.k y13.2.1).bind fun y15=>
 tK.2.1 y15.2.1 (Dop.AU.mk 45 y15.1.1 y3.1.1.b y3.1.1.c y3.1.1.d y11.1.1.text y3.1.1.n y12.1.1 y3.1.1.at_))<|
 tK.2.1 y13.2.1 (Dop.AU.mk 45 y3.1.1.a y3.1.1.b y3.1.1.c y3.1.1.d y11.1.1.text y3.1.1.n y12.1.1 y3.1.1.at_))<|
 (Cm.k ([105,102]:List UInt8) y8.2.1).bind fun y10=>
 ci y10.1.1 ((JZ.k y10.2.1).bind fun y12=>
 (F3.kr rK y12.2.1).bind fun y13=>
 (Cm.k ([101,108,115,101]:List UInt8) y13.2.1).bind fun y14=>
 ci y14.1.1 ((F3.kr rK y14.2.1).bind fun y16=>
 tK.1 y16.2.1 (Dop.AU.mk 31 y12.1.1 y13.1.1 y16.1.1 y3.1.1.d y3.1.1.text y3.1.1.n y3.1.1.Ad y3.1.1.at_))<|
 tK.1 y14.2.1 (Dop.AU.mk 31 y12.1.1 y13.1.1 y3.1.1.c y3.1.1.d y3.1.1.text y3.1.1.n y3.1.1.Ad y3.1.1.at_))<|
 (Cm.k ([119,104,105,108,101]:List UInt8) y10.2.1).bind fun y12=>
 ci y12.1.1 ((JZ.k y12.2.1).bind fun y14=>
 (F3.kr rK y14.2.1).bind fun y15=>
 tK.1 y15.2.1 (Dop.AU.mk 32 y14.1.1 y15.1.1 y3.1.1.c y3.1.1.d y3.1.1.text y3.1.1.n y3.1.1.Ad y3.1.1.at_))<|
 (Cm.k ([100,111]:List UInt8) y12.2.1).bind fun y14=>
 ci y14.1.1 ((F3.kr rK y14.2.1).bind fun y16=>
 (DG.k ([119,104,105,108,101]:List UInt8) y16.2.1).bind fun y17=>
 (JZ.k y17.2.1).bind fun y18=>
 (DG.k ([59]:List UInt8) y18.2.1).bind fun y19=>
 tK.1 y19.2.1 (Dop.AU.mk 33 y18.1.1 y16.1.1 y3.1.1.c y3.1.1.d y3.1.1.text y3.1.1.n y3.1.1.Ad y3.1.1.at_))<|
 (Cm.k ([102,111,114]:List UInt8) y14.2.1).bind fun y16=>
 ci y16.1.1 ((DG.k ([40]:List UInt8) y16.2.1).bind fun y18=>
 (Ja.k ([59]:List UInt8) y18.2.1).bind fun y19=>
 (Ja.k ([59]:List UInt8) y19.2.1).bind fun y20=>
 (Ja.k ([41]:List UInt8) y20.2.1).bind fun y21=>
 (F3.kr rK y21.2.1).bind fun y22=>
 tK.1 y22.2.1 (Dop.AU.mk 34 y19.1.1 y20.1.1 y21.1.1 y22.1.1 y3.1.1.text y3.1.1.n y3.1.1.Ad y3.1.1.at_))<|
 (Cm.k ([98,114,101,97,107]:List UInt8) y16.2.1).bind fun y18=>
 ci y18.1.1 ((DG.k ([59]:List UInt8) y18.2.1).bind fun y20=>
 tK.1 y20.2.1 (Dop.AU.mk 35 y3.1.1.a y3.1.1.b y3.1.1.c y3.1.1.d y3.1.1.text y3.1.1.n y3.1.1.Ad y3.1.1.at_))<|
 (Cm.k ([99,111,110,116,105,110,117,101]:List UInt8) y18.2.1).bind fun y20=>
 ci y20.1.1 ((DG.k ([59]:List UInt8) y20.2.1).bind fun y22=>
 tK.1 y22.2.1 (Dop.AU.mk 36 y3.1.1.a y3.1.1.b y3.1.1.c y3.1.1.d y3.1.1.text y3.1.1.n y3.1.1.Ad y3.1.1.at_))<|
 (Cm.k ([114,101,116,117,114,110]:List UInt8) y20.2.1).bind fun y22=>
 ci y22.1.1 ((Ja.k ([59]:List UInt8) y22.2.1).bind fun y24=>
 tK.1 y24.2.1 (Dop.AU.mk 37 y24.1.1 y3.1.1.b y3.1.1.c y3.1.1.d y3.1.1.text y3.1.1.n y3.1.1.Ad y3.1.1.at_))<|
 (Cm.k ([103,111,116,111]:List UInt8) y22.2.1).bind fun y24=>
 ci y24.1.1 ((IB.k 1 y24.2.1).bind fun y26=>
 (DG.k ([59]:List UInt8) y26.2.1).bind fun y27=>
 tK.1 y27.2.1 (Dop.AU.mk 38 y3.1.1.a y3.1.1.b y3.1.1.c y3.1.1.d y26.1.1.text y3.1.1.n y3.1.1.Ad y3.1.1.at_))<|
 (Cm.k ([115,119,105,116,99,104]:List UInt8) y24.2.1).bind fun y26=>
 ci y26.1.1 ((JZ.k y26.2.1).bind fun y28=>
 (Ge.kr rK y28.2.1).bind fun y29=>
 tK.1 y29.2.1 (Dop.AU.mk 40 y28.1.1 y29.1.1 y3.1.1.c y3.1.1.d y3.1.1.text y3.1.1.n y3.1.1.Ad y3.1.1.at_))<|
 (Cm.k ([99,97,115,101]:List UInt8) y26.2.1).bind fun y28=>
 ci y28.1.1 ((Cm.k ([45]:List UInt8) y28.2.1).bind fun y30=>
 ci y30.1.1 (tK.2.2.1 ((-1)) y30.2.1 (Dop.AU.mk 41 y3.1.1.a y3.1.1.b y3.1.1.c y3.1.1.d y3.1.1.text y3.1.1.n y3.1.1.Ad y3.1.1.at_))<|
 tK.2.2.1 1 y30.2.1 (Dop.AU.mk 41 y3.1.1.a y3.1.1.b y3.1.1.c y3.1.1.d y3.1.1.text y3.1.1.n y3.1.1.Ad y3.1.1.at_))<|
 (Cm.k ([100,101,102,97,117,108,116]:List UInt8) y28.2.1).bind fun y30=>
 ci y30.1.1 ((DG.k ([58]:List UInt8) y30.2.1).bind fun y32=>
 (F3.kr rK y32.2.1).bind fun y33=>
 tK.1 y33.2.1 (Dop.AU.mk 42 y33.1.1 y3.1.1.b y3.1.1.c y3.1.1.d y3.1.1.text y3.1.1.n y3.1.1.Ad y3.1.1.at_))<|
 (Mh.k y30.2.1).bind fun y32=>
 ci y32.1.1 ((IB.k 1 y32.2.1).bind fun y34=>
 (DG.k ([58]:List UInt8) y34.2.1).bind fun y35=>
 (F3.kr rK y35.2.1).bind fun y36=>
 tK.1 y36.2.1 (Dop.AU.mk 39 y36.1.1 y3.1.1.b y3.1.1.c y3.1.1.d y34.1.1.text y3.1.1.n y3.1.1.Ad y3.1.1.at_))<|
 (DV.k y32.2.1).bind fun y34=>
 (DG.k ([59]:List UInt8) y34.2.1).bind fun y35=>
 tK.1 y35.2.1 (Dop.AU.mk 30 y34.1.1 y3.1.1.b y3.1.1.c y3.1.1.d y3.1.1.text y3.1.1.n y3.1.1.Ad y3.1.1.at_)
def Ck.kf (rK:Gs.T) (k0:PS):R1 Int PS:=Ck.k0 rK (Ck.kL rK 1000000) k0
def Gs.kS (r:Gs.T):Gs.T:=(fun x=>Ge.kf r x.2.1,fun x=>F3.kf r x.2.1,fun x=>within r.2.2.2.1 x.2.1,fun x=>Ck.kf r x.2.1,())
def Gs.kR (n:Nat):Gs.T:=DA Gs.kS n
def Ge.Kc (n:Nat):=kd 98 Ge.p (Gs.kR n).1
def Ge.Lv:=Ge.Kc FU
def Ge.k:=Ge.kr (Gs.kR FU)
def F3.Kc (n:Nat):=kd 145 F3.p (Gs.kR n).2.1
def C1.Kc (n:Nat):=kd 180 C1.p (Gs.kR n).2.2.1
abbrev Ck.kq (n:Nat):((Unit×Unit)×(PS×Unit))->Option ((Int×Unit)×(PS×Unit)):=(Gs.kR n).2.2.2.1
def Ck.Kc (n:Nat):=kd 181 Ck.p (Gs.kR n).2.2.2.1
def Gs.RY (n:Nat):List (Bp Dop.D4):=[Ge.Kc n,F3.Kc n,C1.Kc n,Ck.Kc n]
theorem Gs.Ej: ∀ n,(Ge.Kc n).Holds prog/\(F3.Kc n).Holds prog/\(C1.Kc n).Holds prog/\(Ck.Kc n).Holds prog/\True
 | 0=>⟨AN AH Ge.ok,AN AH F3.ok,AN AH (by kernel_rfl),AN AH Ck.ok,trivial⟩
 | n+1=>by
  obtain ⟨h0,h1,h2,h3,_⟩:=Gs.Ej n
  have hh: ∀ c∈Gs.RY n,c.Holds prog:=(hc h0 (hc h1 (hc h2 (hc h3 hn))))
  exact ⟨GD AH (Ab hh (hc ET.Kh (hc FJ.Kh (hc DG.Kh (hc Cm.Kh (hc Bg.Kh (hc Cn.Kh hn))))))) Ge.ok (fun t x=>Ge.k0 (Gs.kR n) t x.2.1) (fun c=>(fun l k0 b1=>c 4 Ge.q4 rfl (((),(),l,()),(k0,(b1,()),())),())) (Ge.kS (Gs.kR n)) (by kernel_rfl),
   kh AH (Ab hh hn) F3.ok (by kernel_rfl),
   (jt.holds (m:=Ck.kq n) h3),
   GD AH (Ab hh (hc ET.Kh (hc FJ.Kh (hc Mq.Kh (hc Cm.Kh (hc Mg.Kh (hc DE.Kh (hc IB.Kh (hc PZ.Kh (hc DV.ID (hc DG.Kh (hc JZ.Kh (hc Ja.Kh (hc Mh.Kh (hc Cn.Kh hn))))))))))))))) Ck.ok (fun t x=>Ck.k0 (Gs.kR n) t x.2.1) (fun c=>(fun k0 b1=>c 64 Ck.kT rfl (((),(),()),(k0,(b1,()),())),fun k0 b1=>c 13 Ck.YU rfl (((),(),()),(k0,(b1,()),())),fun t4 k0 b1=>c 53 Ck.kQ rfl (((),(),t4,()),(k0,(b1,()),())),())) (Ck.kS (Gs.kR n)) (by kernel_rfl),
   trivial⟩
theorem Ge.ID:Ge.Lv.Holds prog:=(Gs.Ej FU).1
abbrev Tk.T:Type:=List Int->PS->Dop.AU->R1 Int PS
abbrev PV.T:Type:=List Int->PS->Dop.AU->R1 Int PS
abbrev IH.KT:Type:=Tk.T×PV.T×Unit
def Tk.kB (tK:IH.KT):Tk.T:=fun t4 k0 b1=>
 let F1:Y1 Int PS->R1 Int PS:=fun y9=>
 ck (Cq none (room 8 (t4.length+(y9.1.1::[]).length)))<|
 ci (!(PS.e y9.2.1=0)) (CJ (-1) y9.2.1)<|
 tK.1 (t4++y9.1.1::[]) y9.2.1 b1
 ci (I t4.length=0) ((Qm.k k0).bind fun y3=>
 (PZ.k y3.1.1.Ad y3.2.1).bind fun y4=>
 (DG.k ([59]:List UInt8) y4.2.1).bind fun y5=>
 (Cn.k (Dop.AU.mk y3.1.1.kind y3.1.1.a y3.1.1.b y3.1.1.c y3.1.1.d y3.1.1.text y3.1.1.n y4.1.1 y3.1.1.at_) y5.2.1).bind F1)<|
 (Cm.k ([125]:List UInt8) k0).bind fun y3=>
 ci (!y3.1.1) (ci (PS.e y3.2.1=0) ((Qm.k y3.2.1).bind fun y6=>
 (PZ.k y6.1.1.Ad y6.2.1).bind fun y7=>
 (DG.k ([59]:List UInt8) y7.2.1).bind fun y8=>
 (Cn.k (Dop.AU.mk y6.1.1.kind y6.1.1.a y6.1.1.b y6.1.1.c y6.1.1.d y6.1.1.text y6.1.1.n y7.1.1 y6.1.1.at_) y8.2.1).bind F1)<|
 (DG.k ([59]:List UInt8) y3.2.1).bind fun y6=>
 (Bg.k t4 y6.2.1).bind fun y7=>
 (Cn.k (Dop.AU.mk b1.kind y7.1.1 b1.b b1.c b1.d b1.text b1.n b1.Ad b1.at_) y7.2.1).bind Gh)<|
 (DG.k ([59]:List UInt8) y3.2.1).bind fun y5=>
 (Bg.k t4 y5.2.1).bind fun y6=>
 (Cn.k (Dop.AU.mk b1.kind y6.1.1 b1.b b1.c b1.d b1.text b1.n b1.Ad b1.at_) y6.2.1).bind Gh
def PV.kB (tK:IH.KT):PV.T:=fun t7 k0 b1=>
 let F1:Y1 Int PS->R1 Int PS:=fun y7=>
 ck (Cq none (room 8 (t7.length+(y7.1.1::[]).length)))<|
 tK.2.1 (t7++y7.1.1::[]) y7.2.1 b1
 (Cm.k ([41]:List UInt8) k0).bind fun y2=>
 ci (!y2.1.1) (ci (PS.e y2.2.1=0) (ci (0<I t7.length) ((DG.k ([44]:List UInt8) y2.2.1).bind fun y6=>
 (Qm.k y6.2.1).bind fun y7=>
 (Cn.k y7.1.1 y7.2.1).bind F1)<|
 (Qm.k y2.2.1).bind fun y6=>
 (Cn.k y6.1.1 y6.2.1).bind F1)<|
 (Bg.k t7 y2.2.1).bind fun y5=>
 (Ge.k y5.2.1).bind fun y6=>
 (Cn.k (Dop.AU.mk b1.kind y5.1.1 y6.1.1 b1.c b1.d b1.text b1.n b1.Ad b1.at_) y6.2.1).bind Gh)<|
 (Bg.k t7 y2.2.1).bind fun y4=>
 (Ge.k y4.2.1).bind fun y5=>
 (Cn.k (Dop.AU.mk b1.kind y4.1.1 y5.1.1 b1.c b1.d b1.text b1.n b1.Ad b1.at_) y5.2.1).bind Gh
def IH.kS (tK:IH.KT):IH.KT:=(Tk.kB tK,PV.kB tK,())
def IH.kL (n:Nat):IH.KT:=DA IH.kS n
def IH.k0 (tK:IH.KT) (k0:PS):R1 Int PS:=
 (ET.k k0).bind fun y2=>
 (FJ.k 53 y2.1.1.at_).bind fun y3=>
 (Mq.k ([115,116,114,117,99,116]:List UInt8) y2.2.1).bind fun y4=>
 ci y4.1.1 (ck (Au (PS.at_ y4.2.1+2))<|
 ci (PS.at_ y4.2.1+2<I (PS.l y4.2.1).length) (ck (Au (PS.at_ y4.2.1+2))<|
 ck (0<=PS.at_ y4.2.1+2/\PS.at_ y4.2.1+2<I (PS.l y4.2.1).length)<|
 ci ((List.getD (PS.l y4.2.1) (PS.at_ y4.2.1+2).toNat Dop.d4).text=(123:UInt8)::[]) ((DG.k ([115,116,114,117,99,116]:List UInt8) y4.2.1).bind fun y8=>
 (IB.k 1 y8.2.1).bind fun y9=>
 (DG.k ([123]:List UInt8) y9.2.1).bind fun y10=>
 tK.1 [] y10.2.1 (Dop.AU.mk y3.1.1.kind y3.1.1.a y3.1.1.b y3.1.1.c y3.1.1.d y9.1.1.text y3.1.1.n y3.1.1.Ad y3.1.1.at_))<|
 (Qm.k y4.2.1).bind fun y8=>
 (Cm.k ([40]:List UInt8) y8.2.1).bind fun y9=>
 ci y9.1.1 (tK.2.1 [] y9.2.1 (Dop.AU.mk 50 y3.1.1.a y3.1.1.b y3.1.1.c y3.1.1.d y8.1.1.text y3.1.1.n y8.1.1.Ad y3.1.1.at_))<|
 (PZ.k y8.1.1.Ad y9.2.1).bind fun y11=>
 (Cm.k ([61]:List UInt8) y11.2.1).bind fun y12=>
 ci y12.1.1 ((Cm.k ([45]:List UInt8) y12.2.1).bind fun y14=>
 ci y14.1.1 ((IB.k 3 y14.2.1).bind fun y16=>
 ck (Au ((-1)*y16.1.1.n))<|
 (DG.k ([59]:List UInt8) y16.2.1).bind fun y17=>
 (Cn.k (Dop.AU.mk 52 y3.1.1.a y3.1.1.b y3.1.1.c y3.1.1.d y8.1.1.text ((-1)*y16.1.1.n) y11.1.1 y3.1.1.at_) y17.2.1).bind Gh)<|
 (IB.k 3 y14.2.1).bind fun y16=>
 ck (Au (1*y16.1.1.n))<|
 (DG.k ([59]:List UInt8) y16.2.1).bind fun y17=>
 (Cn.k (Dop.AU.mk 52 y3.1.1.a y3.1.1.b y3.1.1.c y3.1.1.d y8.1.1.text (1*y16.1.1.n) y11.1.1 y3.1.1.at_) y17.2.1).bind Gh)<|
 (DG.k ([59]:List UInt8) y12.2.1).bind fun y14=>
 (Cn.k (Dop.AU.mk 52 y3.1.1.a y3.1.1.b y3.1.1.c y3.1.1.d y8.1.1.text y3.1.1.n y11.1.1 y3.1.1.at_) y14.2.1).bind Gh)<|
 (Qm.k y4.2.1).bind fun y7=>
 (Cm.k ([40]:List UInt8) y7.2.1).bind fun y8=>
 ci y8.1.1 (tK.2.1 [] y8.2.1 (Dop.AU.mk 50 y3.1.1.a y3.1.1.b y3.1.1.c y3.1.1.d y7.1.1.text y3.1.1.n y7.1.1.Ad y3.1.1.at_))<|
 (PZ.k y7.1.1.Ad y8.2.1).bind fun y10=>
 (Cm.k ([61]:List UInt8) y10.2.1).bind fun y11=>
 ci y11.1.1 ((Cm.k ([45]:List UInt8) y11.2.1).bind fun y13=>
 ci y13.1.1 ((IB.k 3 y13.2.1).bind fun y15=>
 ck (Au ((-1)*y15.1.1.n))<|
 (DG.k ([59]:List UInt8) y15.2.1).bind fun y16=>
 (Cn.k (Dop.AU.mk 52 y3.1.1.a y3.1.1.b y3.1.1.c y3.1.1.d y7.1.1.text ((-1)*y15.1.1.n) y10.1.1 y3.1.1.at_) y16.2.1).bind Gh)<|
 (IB.k 3 y13.2.1).bind fun y15=>
 ck (Au (1*y15.1.1.n))<|
 (DG.k ([59]:List UInt8) y15.2.1).bind fun y16=>
 (Cn.k (Dop.AU.mk 52 y3.1.1.a y3.1.1.b y3.1.1.c y3.1.1.d y7.1.1.text (1*y15.1.1.n) y10.1.1 y3.1.1.at_) y16.2.1).bind Gh)<|
 (DG.k ([59]:List UInt8) y11.2.1).bind fun y13=>
 (Cn.k (Dop.AU.mk 52 y3.1.1.a y3.1.1.b y3.1.1.c y3.1.1.d y7.1.1.text y3.1.1.n y10.1.1 y3.1.1.at_) y13.2.1).bind Gh)<|
 (Qm.k y4.2.1).bind fun y6=>
 (Cm.k ([40]:List UInt8) y6.2.1).bind fun y7=>
 ci y7.1.1 (tK.2.1 [] y7.2.1 (Dop.AU.mk 50 y3.1.1.a y3.1.1.b y3.1.1.c y3.1.1.d y6.1.1.text y3.1.1.n y6.1.1.Ad y3.1.1.at_))<|
 (PZ.k y6.1.1.Ad y7.2.1).bind fun y9=>
 (Cm.k ([61]:List UInt8) y9.2.1).bind fun y10=>
 ci y10.1.1 ((Cm.k ([45]:List UInt8) y10.2.1).bind fun y12=>
 ci y12.1.1 ((IB.k 3 y12.2.1).bind fun y14=>
 ck (Au ((-1)*y14.1.1.n))<|
 (DG.k ([59]:List UInt8) y14.2.1).bind fun y15=>
 (Cn.k (Dop.AU.mk 52 y3.1.1.a y3.1.1.b y3.1.1.c y3.1.1.d y6.1.1.text ((-1)*y14.1.1.n) y9.1.1 y3.1.1.at_) y15.2.1).bind Gh)<|
 (IB.k 3 y12.2.1).bind fun y14=>
 ck (Au (1*y14.1.1.n))<|
 (DG.k ([59]:List UInt8) y14.2.1).bind fun y15=>
 (Cn.k (Dop.AU.mk 52 y3.1.1.a y3.1.1.b y3.1.1.c y3.1.1.d y6.1.1.text (1*y14.1.1.n) y9.1.1 y3.1.1.at_) y15.2.1).bind Gh)<|
 (DG.k ([59]:List UInt8) y10.2.1).bind fun y12=>
 (Cn.k (Dop.AU.mk 52 y3.1.1.a y3.1.1.b y3.1.1.c y3.1.1.d y6.1.1.text y3.1.1.n y9.1.1 y3.1.1.at_) y12.2.1).bind Gh
def IH.k (k0:PS):R1 Int PS:=IH.k0 (IH.kL 1000000) k0
def IH.Kc:=kd 46 IH.p fun x=>IH.k x.2.1
theorem IH.Kh:IH.Kc.Holds prog:=GD AH (hc ET.Kh (hc FJ.Kh (hc Mq.Kh (hc DG.Kh (hc IB.Kh (hc Cm.Kh (hc Qm.Kh (hc PZ.Kh (hc Cn.Kh (hc Bg.Kh (hc Ge.ID hn))))))))))) IH.ok (fun t x=>IH.k0 t x.2.1) (fun c=>(fun t4 k0 b1=>c 7 IH.q7 rfl (((),(),t4,()),(k0,(b1,()),())),fun t7 k0 b1=>c 21 IH.gV rfl (((),(),t7,()),(k0,(b1,()),())),())) IH.kS (by kernel_rfl)
abbrev Tg.T:Type:=Int->List Dop.AU->List Dop.G4->Int->PS->OW Dop.G3 Int Int
abbrev Th.T:Type:=List Int->List Dop.AU->List Dop.G4->Int->PS->OW Dop.G3 Int Int
abbrev m20.KT:Type:=Tg.T×Th.T×Unit
def Tg.kB (tK:m20.KT):Tg.T:=fun t6 b0_0 b0_1 b0_2 k1=>
 ci (t6<=3) (ck (Cq none (room 40 (k1.types.length+(Dop.G4.mk t6 0 0 []::[]).length)))<|
 ck (Au (t6+1))<|
 tK.1 (t6+1) b0_0 b0_1 b0_2 ((PS.UA k1 (k1.types++Dop.G4.mk t6 0 0 []::[]))))<|
 tK.2.1 [] b0_0 b0_1 b0_2 k1
def Th.kB (tK:m20.KT):Th.T:=fun t7 b0_0 b0_1 b0_2 k1=>
 ci (k1.e=0) ((ET.k k1).bind fun y3=>
 ci (!(y3.1.1.kind=0)) ((IH.k y3.2.1).bind fun y5=>
 ck (Cq none (room 8 (t7.length+(y5.1.1::[]).length)))<|
 tK.2.1 (t7++y5.1.1::[]) b0_0 b0_1 b0_2 y5.2.1)<|
 (Bg.k t7 y3.2.1).bind fun y5=>
 ci (!(PS.e y5.2.1=0)) (Ln (Dop.G3.mk [] [] 0) (PS.when y5.2.1) (PS.e y5.2.1))<|
 Ln (Dop.G3.mk (PS.nodes y5.2.1) (PS.types y5.2.1) y5.1.1) 0 0)<|
 (Bg.k t7 k1).bind fun y3=>
 ci (!(PS.e y3.2.1=0)) (Ln (Dop.G3.mk [] [] 0) (PS.when y3.2.1) (PS.e y3.2.1))<|
 Ln (Dop.G3.mk (PS.nodes y3.2.1) (PS.types y3.2.1) y3.1.1) 0 0
def m20.kS (tK:m20.KT):m20.KT:=(Tg.kB tK,Th.kB tK,())
def m20.kL (n:Nat):m20.KT:=DA m20.kS n
def m20.k0 (tK:m20.KT) (o:List Dop.Tok):OW Dop.G3 Int Int:=
 tK.1 0 [] [] 0 ((o,0,[],[],0,0,0,0,()))
def m20.k (o:List Dop.Tok):OW Dop.G3 Int Int:=m20.k0 (m20.kL 1000000) o
def m20.Kc:=kd 20 m20.p fun x=>m20.k x.1.1
theorem m20.Kh:m20.Kc.Holds prog:=GD AH (hc ET.Kh (hc IH.Kh (hc Bg.Kh hn))) m20.ok (fun t x=>m20.k0 t x.1.1) (fun c=>(fun t6 b0_0 b0_1 b0_2 k1=>c 3 m20.q3 rfl (((),(),t6,()),((b0_0,b0_1,b0_2,()),k1,())),fun t7 b0_0 b0_1 b0_2 k1=>c 7 m20.q7 rfl (((),(),t7,()),((b0_0,b0_1,b0_2,()),k1,())),())) m20.kS (by kernel_rfl)
def Up.k (s:List UInt8):OW Dop.G3 Int Int:=
 (m19.k s).bind fun y2=>
 ci (!(y2.1.2.2.1=0)) (Ln (Dop.G3.mk [] [] 0) y2.1.2.1 y2.1.2.2.1)<|
 (m20.k y2.1.1).bind kC
def Up.Kc:=kd 41 Up.p fun x=>Up.k x.1.1
theorem Up.Kh:Up.Kc.Holds prog:=kh AH (hc m19.Kh (hc m20.Kh hn)) Up.ok (by kernel_rfl)
end
end Go.Proofs.Tryz
