/-
 Functions in plain words (what their equations say), and their contracts. Written by a program.
-/
import Derived.Test.YtkpggdcpaeanaaaGreatDoorMr
import Derived.Test.YtkpggdcpaeanaaaGreatDoorMj
set_option linter.all false
set_option maxRecDepth 100000
set_option maxHeartbeats 4000000
namespace Go.Proofs.Tryz
open Go Go.En
noncomputable section
def Je.k (k0:PS):R1 Int PS:=
 (DN.k ([40]:List UInt8) k0).bind fun y2=>
 (Df.k y2.2.1).bind fun y3=>
 (DN.k ([41]:List UInt8) y3.2.1).bind fun y4=>
 CR y3.1.1 y4.2.1
def Je.Kc:=kd 206 Je.p fun x=>Je.k x.2.1
theorem Je.Kh:Je.Kc.Holds prog:=kh AH (hc DN.Kh (hc Df.IN hn)) Je.ok (by kernel_rfl)
def Jf.k (s:List UInt8) (k0:PS):R1 Int PS:=
 (Cq.k s k0).bind fun y2=>
 ci y2.1.1 (CR (-1) y2.2.1)<|
 (Df.k y2.2.1).bind fun y4=>
 (DN.k s y4.2.1).bind fun y5=>
 CR y4.1.1 y5.2.1
def Jf.Kc:=kd 207 Jf.p fun x=>Jf.k x.1.2.1 x.2.1
theorem Jf.Kh:Jf.Kc.Holds prog:=kh AH (hc Cq.Kh (hc Df.IN (hc DN.Kh hn))) Jf.ok (by kernel_rfl)
def Mv.k (k0:PS):R1 Bool PS:=
 (Ee.k k0).bind fun y2=>
 ci (y2.1.1.kind=1) (ck (Az (PS.at_ y2.2.1+1))<|
 ci (PS.at_ y2.2.1+1<I (PS.l y2.2.1).length) (ck (Az (PS.at_ y2.2.1+1))<|
 ck (0<=PS.at_ y2.2.1+1/\PS.at_ y2.2.1+1<I (PS.l y2.2.1).length)<|
 CR (decide ((List.getD (PS.l y2.2.1) (PS.at_ y2.2.1+1).toNat Dop.d4).text=(58:UInt8)::[])) y2.2.1)<|
 CR false y2.2.1)<|
 CR false y2.2.1
def Mv.Kc:=kd 208 Mv.p fun x=>Mv.k x.2.1
theorem Mv.Kh:Mv.Kc.Holds prog:=kh AH (hc Ee.Kh hn) Mv.ok (by kernel_rfl)
abbrev Gu.kr (r:G8.T) (k0:PS):R1 Int PS:=r.1 (((),()),(k0,()))
abbrev GL.kr (r:G8.T) (k0:PS):R1 Int PS:=r.2.1 (((),()),(k0,()))
abbrev C8.kr (r:G8.T) (k0:PS):R1 Int PS:=r.2.2.1 (((),(),()),(k0,()))
abbrev UI.T:Type:=List Int->PS->Dop.AU->R1 Int PS
abbrev Gu.KT:Type:=UI.T×Unit
def UI.kB (rK:G8.T) (tK:Gu.KT):UI.T:=fun l k0 b1=>
 (Cq.k ([125]:List UInt8) k0).bind fun y2=>
 ci (!y2.1.1) (ci (PS.e y2.2.1=0) ((GL.kr rK y2.2.1).bind fun y5=>
 ck (Cu none (room 8 (l.length+(y5.1.1::[]).length)))<|
 tK.1 (l++y5.1.1::[]) y5.2.1 b1)<|
 (Bl.k l y2.2.1).bind fun y5=>
 (Cr.k (Dop.AU.mk b1.kind y5.1.1 b1.b b1.c b1.d b1.text b1.n b1.Af b1.at_) y5.2.1).bind Gx)<|
 (Bl.k l y2.2.1).bind fun y4=>
 (Cr.k (Dop.AU.mk b1.kind y4.1.1 b1.b b1.c b1.d b1.text b1.n b1.Af b1.at_) y4.2.1).bind Gx
def Gu.kS (rK:G8.T) (tK:Gu.KT):Gu.KT:=(UI.kB rK tK,())
def Gu.kL (rK:G8.T) (n:Nat):Gu.KT:=Cw (Gu.kS rK) n
def Gu.k0 (rK:G8.T) (tK:Gu.KT) (k0:PS):R1 Int PS:=
 (Ee.k k0).bind fun y2=>
 (FW.k 43 y2.1.1.at_).bind fun y3=>
 (DN.k ([123]:List UInt8) y2.2.1).bind fun y4=>
 tK.1 [] y4.2.1 y3.1.1
def Gu.kf (rK:G8.T) (k0:PS):R1 Int PS:=Gu.k0 rK (Gu.kL rK 1000000) k0
def GL.kf (rK:G8.T) (k0:PS):R1 Int PS:=
 (C8.kr rK k0).bind Gx
abbrev Lc.T:Type:=PS->Dop.AU->R1 Int PS
abbrev La.T:Type:=PS->Dop.AU->R1 Int PS
abbrev Lb.T:Type:=Int->PS->Dop.AU->R1 Int PS
abbrev Co.KT:Type:=Lc.T×La.T×Lb.T×Unit
def Lc.kB (rK:G8.T) (tK:Co.KT):Lc.T:=fun k0 b1=>
 (Cr.k b1 k0).bind Gx
def La.kB (rK:G8.T) (tK:Co.KT):La.T:=fun k0 b1=>
 (DN.k ([59]:List UInt8) k0).bind fun y2=>
 tK.1 y2.2.1 b1
def Lb.kB (rK:G8.T) (tK:Co.KT):Lb.T:=fun t4 k0 b1=>
 (IL.k 3 k0).bind fun y2=>
 ck (Az (t4*y2.1.1.n))<|
 (DN.k ([58]:List UInt8) y2.2.1).bind fun y3=>
 (GL.kr rK y3.2.1).bind fun y4=>
 tK.1 y4.2.1 (Dop.AU.mk b1.kind y4.1.1 b1.b b1.c b1.d b1.text (t4*y2.1.1.n) b1.Af b1.at_)
def Co.kS (rK:G8.T) (tK:Co.KT):Co.KT:=(Lc.kB rK tK,La.kB rK tK,Lb.kB rK tK,())
def Co.kL (rK:G8.T) (n:Nat):Co.KT:=Cw (Co.kS rK) n
def Co.k0 (rK:G8.T) (tK:Co.KT) (k0:PS):R1 Int PS:=
 (Ee.k k0).bind fun y2=>
 (FW.k 44 y2.1.1.at_).bind fun y3=>
 (M3.k ([123]:List UInt8) y2.2.1).bind fun y4=>
 ci y4.1.1 ((Gu.kr rK y4.2.1).bind Gx)<|
 (Cq.k ([59]:List UInt8) y4.2.1).bind fun y6=>
 ci y6.1.1 (tK.1 y6.2.1 y3.1.1)<|
 (Mu.k y6.2.1).bind fun y8=>
 ci y8.1.1 ((DL.k y8.2.1).bind fun y10=>
 (IL.k 1 y10.2.1).bind fun y11=>
 (Pu.k y10.1.1 y11.2.1).bind fun y12=>
 (Cq.k ([61]:List UInt8) y12.2.1).bind fun y13=>
 ci y13.1.1 ((Df.k y13.2.1).bind fun y15=>
 tK.2.1 y15.2.1 (Dop.AU.mk 45 y15.1.1 y3.1.1.b y3.1.1.c y3.1.1.d y11.1.1.text y3.1.1.n y12.1.1 y3.1.1.at_))<|
 tK.2.1 y13.2.1 (Dop.AU.mk 45 y3.1.1.a y3.1.1.b y3.1.1.c y3.1.1.d y11.1.1.text y3.1.1.n y12.1.1 y3.1.1.at_))<|
 (Cq.k ([105,102]:List UInt8) y8.2.1).bind fun y10=>
 ci y10.1.1 ((Je.k y10.2.1).bind fun y12=>
 (GL.kr rK y12.2.1).bind fun y13=>
 (Cq.k ([101,108,115,101]:List UInt8) y13.2.1).bind fun y14=>
 ci y14.1.1 ((GL.kr rK y14.2.1).bind fun y16=>
 tK.1 y16.2.1 (Dop.AU.mk 31 y12.1.1 y13.1.1 y16.1.1 y3.1.1.d y3.1.1.text y3.1.1.n y3.1.1.Af y3.1.1.at_))<|
 tK.1 y14.2.1 (Dop.AU.mk 31 y12.1.1 y13.1.1 y3.1.1.c y3.1.1.d y3.1.1.text y3.1.1.n y3.1.1.Af y3.1.1.at_))<|
 (Cq.k ([119,104,105,108,101]:List UInt8) y10.2.1).bind fun y12=>
 ci y12.1.1 ((Je.k y12.2.1).bind fun y14=>
 (GL.kr rK y14.2.1).bind fun y15=>
 tK.1 y15.2.1 (Dop.AU.mk 32 y14.1.1 y15.1.1 y3.1.1.c y3.1.1.d y3.1.1.text y3.1.1.n y3.1.1.Af y3.1.1.at_))<|
 (Cq.k ([100,111]:List UInt8) y12.2.1).bind fun y14=>
 ci y14.1.1 ((GL.kr rK y14.2.1).bind fun y16=>
 (DN.k ([119,104,105,108,101]:List UInt8) y16.2.1).bind fun y17=>
 (Je.k y17.2.1).bind fun y18=>
 (DN.k ([59]:List UInt8) y18.2.1).bind fun y19=>
 tK.1 y19.2.1 (Dop.AU.mk 33 y18.1.1 y16.1.1 y3.1.1.c y3.1.1.d y3.1.1.text y3.1.1.n y3.1.1.Af y3.1.1.at_))<|
 (Cq.k ([102,111,114]:List UInt8) y14.2.1).bind fun y16=>
 ci y16.1.1 ((DN.k ([40]:List UInt8) y16.2.1).bind fun y18=>
 (Jf.k ([59]:List UInt8) y18.2.1).bind fun y19=>
 (Jf.k ([59]:List UInt8) y19.2.1).bind fun y20=>
 (Jf.k ([41]:List UInt8) y20.2.1).bind fun y21=>
 (GL.kr rK y21.2.1).bind fun y22=>
 tK.1 y22.2.1 (Dop.AU.mk 34 y19.1.1 y20.1.1 y21.1.1 y22.1.1 y3.1.1.text y3.1.1.n y3.1.1.Af y3.1.1.at_))<|
 (Cq.k ([98,114,101,97,107]:List UInt8) y16.2.1).bind fun y18=>
 ci y18.1.1 ((DN.k ([59]:List UInt8) y18.2.1).bind fun y20=>
 tK.1 y20.2.1 (Dop.AU.mk 35 y3.1.1.a y3.1.1.b y3.1.1.c y3.1.1.d y3.1.1.text y3.1.1.n y3.1.1.Af y3.1.1.at_))<|
 (Cq.k ([99,111,110,116,105,110,117,101]:List UInt8) y18.2.1).bind fun y20=>
 ci y20.1.1 ((DN.k ([59]:List UInt8) y20.2.1).bind fun y22=>
 tK.1 y22.2.1 (Dop.AU.mk 36 y3.1.1.a y3.1.1.b y3.1.1.c y3.1.1.d y3.1.1.text y3.1.1.n y3.1.1.Af y3.1.1.at_))<|
 (Cq.k ([114,101,116,117,114,110]:List UInt8) y20.2.1).bind fun y22=>
 ci y22.1.1 ((Jf.k ([59]:List UInt8) y22.2.1).bind fun y24=>
 tK.1 y24.2.1 (Dop.AU.mk 37 y24.1.1 y3.1.1.b y3.1.1.c y3.1.1.d y3.1.1.text y3.1.1.n y3.1.1.Af y3.1.1.at_))<|
 (Cq.k ([103,111,116,111]:List UInt8) y22.2.1).bind fun y24=>
 ci y24.1.1 ((IL.k 1 y24.2.1).bind fun y26=>
 (DN.k ([59]:List UInt8) y26.2.1).bind fun y27=>
 tK.1 y27.2.1 (Dop.AU.mk 38 y3.1.1.a y3.1.1.b y3.1.1.c y3.1.1.d y26.1.1.text y3.1.1.n y3.1.1.Af y3.1.1.at_))<|
 (Cq.k ([115,119,105,116,99,104]:List UInt8) y24.2.1).bind fun y26=>
 ci y26.1.1 ((Je.k y26.2.1).bind fun y28=>
 (Gu.kr rK y28.2.1).bind fun y29=>
 tK.1 y29.2.1 (Dop.AU.mk 40 y28.1.1 y29.1.1 y3.1.1.c y3.1.1.d y3.1.1.text y3.1.1.n y3.1.1.Af y3.1.1.at_))<|
 (Cq.k ([99,97,115,101]:List UInt8) y26.2.1).bind fun y28=>
 ci y28.1.1 ((Cq.k ([45]:List UInt8) y28.2.1).bind fun y30=>
 ci y30.1.1 (tK.2.2.1 ((-1)) y30.2.1 (Dop.AU.mk 41 y3.1.1.a y3.1.1.b y3.1.1.c y3.1.1.d y3.1.1.text y3.1.1.n y3.1.1.Af y3.1.1.at_))<|
 tK.2.2.1 1 y30.2.1 (Dop.AU.mk 41 y3.1.1.a y3.1.1.b y3.1.1.c y3.1.1.d y3.1.1.text y3.1.1.n y3.1.1.Af y3.1.1.at_))<|
 (Cq.k ([100,101,102,97,117,108,116]:List UInt8) y28.2.1).bind fun y30=>
 ci y30.1.1 ((DN.k ([58]:List UInt8) y30.2.1).bind fun y32=>
 (GL.kr rK y32.2.1).bind fun y33=>
 tK.1 y33.2.1 (Dop.AU.mk 42 y33.1.1 y3.1.1.b y3.1.1.c y3.1.1.d y3.1.1.text y3.1.1.n y3.1.1.Af y3.1.1.at_))<|
 (Mv.k y30.2.1).bind fun y32=>
 ci y32.1.1 ((IL.k 1 y32.2.1).bind fun y34=>
 (DN.k ([58]:List UInt8) y34.2.1).bind fun y35=>
 (GL.kr rK y35.2.1).bind fun y36=>
 tK.1 y36.2.1 (Dop.AU.mk 39 y36.1.1 y3.1.1.b y3.1.1.c y3.1.1.d y34.1.1.text y3.1.1.n y3.1.1.Af y3.1.1.at_))<|
 (Df.k y32.2.1).bind fun y34=>
 (DN.k ([59]:List UInt8) y34.2.1).bind fun y35=>
 tK.1 y35.2.1 (Dop.AU.mk 30 y34.1.1 y3.1.1.b y3.1.1.c y3.1.1.d y3.1.1.text y3.1.1.n y3.1.1.Af y3.1.1.at_)
def Co.kf (rK:G8.T) (k0:PS):R1 Int PS:=Co.k0 rK (Co.kL rK 1000000) k0
def G8.kS (r:G8.T):G8.T:=(fun x=>Gu.kf r x.2.1,fun x=>GL.kf r x.2.1,fun x=>within r.2.2.2.1 x.2.1,fun x=>Co.kf r x.2.1,())
def G8.kR (n:Nat):G8.T:=Cw G8.kS n
def Gu.Kc (n:Nat):=kd 98 Gu.p (G8.kR n).1
def Gu.Nn:=Gu.Kc FU
def Gu.k:=Gu.kr (G8.kR FU)
def GL.Kc (n:Nat):=kd 145 GL.p (G8.kR n).2.1
def C8.Kc (n:Nat):=kd 180 C8.p (G8.kR n).2.2.1
abbrev Co.kq (n:Nat):((Unit×Unit)×(PS×Unit))->Option ((Int×Unit)×(PS×Unit)):=(G8.kR n).2.2.2.1
def Co.Kc (n:Nat):=kd 181 Co.p (G8.kR n).2.2.2.1
def G8.Ry (n:Nat):List (Bw Dop.D4):=[Gu.Kc n,GL.Kc n,C8.Kc n,Co.Kc n]
theorem G8.Et: ∀ n,(Gu.Kc n).Holds prog/\(GL.Kc n).Holds prog/\(C8.Kc n).Holds prog/\(Co.Kc n).Holds prog/\True
 | 0=>⟨AO AH Gu.ok,AO AH GL.ok,AO AH (by kernel_rfl),AO AH Co.ok,trivial⟩
 | n+1=>by
  obtain ⟨h0,h1,h2,h3,_⟩:=G8.Et n
  have hh: ∀ c∈G8.Ry n,c.Holds prog:=(hc h0 (hc h1 (hc h2 (hc h3 hn))))
  exact ⟨F4 AH (Ab hh (hc Ee.Kh (hc FW.Kh (hc DN.Kh (hc Cq.Kh (hc Bl.Kh (hc Cr.Kh hn))))))) Gu.ok (fun t x=>Gu.k0 (G8.kR n) t x.2.1) (fun c=>(fun l k0 b1=>c 4 Gu.q4 rfl (((),(),l,()),(k0,(b1,()),())),())) (Gu.kS (G8.kR n)) (by kernel_rfl),
   kh AH (Ab hh hn) GL.ok (by kernel_rfl),
   (lu.holds (m:=Co.kq n) h3),
   F4 AH (Ab hh (hc Ee.Kh (hc FW.Kh (hc M3.Kh (hc Cq.Kh (hc Mu.Kh (hc DL.Kh (hc IL.Kh (hc Pu.Kh (hc Df.IN (hc DN.Kh (hc Je.Kh (hc Jf.Kh (hc Mv.Kh (hc Cr.Kh hn))))))))))))))) Co.ok (fun t x=>Co.k0 (G8.kR n) t x.2.1) (fun c=>(fun k0 b1=>c 64 Co.mU rfl (((),(),()),(k0,(b1,()),())),fun k0 b1=>c 13 Co.YT rfl (((),(),()),(k0,(b1,()),())),fun t4 k0 b1=>c 53 Co.mT rfl (((),(),t4,()),(k0,(b1,()),())),())) (Co.kS (G8.kR n)) (by kernel_rfl),
   trivial⟩
theorem Gu.IN:Gu.Nn.Holds prog:=(G8.Et FU).1
abbrev UC.T:Type:=List Int->PS->Dop.AU->R1 Int PS
abbrev Pp.T:Type:=List Int->PS->Dop.AU->R1 Int PS
abbrev IT.KT:Type:=UC.T×Pp.T×Unit
def UC.kB (tK:IT.KT):UC.T:=fun t4 k0 b1=>
 let F1:Y1 Int PS->R1 Int PS:=fun y9=>
 ck (Cu none (room 8 (t4.length+(y9.1.1::[]).length)))<|
 ci (!(PS.e y9.2.1=0)) (CR (-1) y9.2.1)<|
 tK.1 (t4++y9.1.1::[]) y9.2.1 b1
 ci (I t4.length=0) ((Q9.k k0).bind fun y3=>
 (Pu.k y3.1.1.Af y3.2.1).bind fun y4=>
 (DN.k ([59]:List UInt8) y4.2.1).bind fun y5=>
 (Cr.k (Dop.AU.mk y3.1.1.kind y3.1.1.a y3.1.1.b y3.1.1.c y3.1.1.d y3.1.1.text y3.1.1.n y4.1.1 y3.1.1.at_) y5.2.1).bind F1)<|
 (Cq.k ([125]:List UInt8) k0).bind fun y3=>
 ci (!y3.1.1) (ci (PS.e y3.2.1=0) ((Q9.k y3.2.1).bind fun y6=>
 (Pu.k y6.1.1.Af y6.2.1).bind fun y7=>
 (DN.k ([59]:List UInt8) y7.2.1).bind fun y8=>
 (Cr.k (Dop.AU.mk y6.1.1.kind y6.1.1.a y6.1.1.b y6.1.1.c y6.1.1.d y6.1.1.text y6.1.1.n y7.1.1 y6.1.1.at_) y8.2.1).bind F1)<|
 (DN.k ([59]:List UInt8) y3.2.1).bind fun y6=>
 (Bl.k t4 y6.2.1).bind fun y7=>
 (Cr.k (Dop.AU.mk b1.kind y7.1.1 b1.b b1.c b1.d b1.text b1.n b1.Af b1.at_) y7.2.1).bind Gx)<|
 (DN.k ([59]:List UInt8) y3.2.1).bind fun y5=>
 (Bl.k t4 y5.2.1).bind fun y6=>
 (Cr.k (Dop.AU.mk b1.kind y6.1.1 b1.b b1.c b1.d b1.text b1.n b1.Af b1.at_) y6.2.1).bind Gx
def Pp.kB (tK:IT.KT):Pp.T:=fun t7 k0 b1=>
 let F1:Y1 Int PS->R1 Int PS:=fun y7=>
 ck (Cu none (room 8 (t7.length+(y7.1.1::[]).length)))<|
 tK.2.1 (t7++y7.1.1::[]) y7.2.1 b1
 (Cq.k ([41]:List UInt8) k0).bind fun y2=>
 ci (!y2.1.1) (ci (PS.e y2.2.1=0) (ci (0<I t7.length) ((DN.k ([44]:List UInt8) y2.2.1).bind fun y6=>
 (Q9.k y6.2.1).bind fun y7=>
 (Cr.k y7.1.1 y7.2.1).bind F1)<|
 (Q9.k y2.2.1).bind fun y6=>
 (Cr.k y6.1.1 y6.2.1).bind F1)<|
 (Bl.k t7 y2.2.1).bind fun y5=>
 (Gu.k y5.2.1).bind fun y6=>
 (Cr.k (Dop.AU.mk b1.kind y5.1.1 y6.1.1 b1.c b1.d b1.text b1.n b1.Af b1.at_) y6.2.1).bind Gx)<|
 (Bl.k t7 y2.2.1).bind fun y4=>
 (Gu.k y4.2.1).bind fun y5=>
 (Cr.k (Dop.AU.mk b1.kind y4.1.1 y5.1.1 b1.c b1.d b1.text b1.n b1.Af b1.at_) y5.2.1).bind Gx
def IT.kS (tK:IT.KT):IT.KT:=(UC.kB tK,Pp.kB tK,())
def IT.kL (n:Nat):IT.KT:=Cw IT.kS n
def IT.k0 (tK:IT.KT) (k0:PS):R1 Int PS:=
 (Ee.k k0).bind fun y2=>
 (FW.k 53 y2.1.1.at_).bind fun y3=>
 (M3.k ([115,116,114,117,99,116]:List UInt8) y2.2.1).bind fun y4=>
 ci y4.1.1 (ck (Az (PS.at_ y4.2.1+2))<|
 ci (PS.at_ y4.2.1+2<I (PS.l y4.2.1).length) (ck (Az (PS.at_ y4.2.1+2))<|
 ck (0<=PS.at_ y4.2.1+2/\PS.at_ y4.2.1+2<I (PS.l y4.2.1).length)<|
 ci ((List.getD (PS.l y4.2.1) (PS.at_ y4.2.1+2).toNat Dop.d4).text=(123:UInt8)::[]) ((DN.k ([115,116,114,117,99,116]:List UInt8) y4.2.1).bind fun y8=>
 (IL.k 1 y8.2.1).bind fun y9=>
 (DN.k ([123]:List UInt8) y9.2.1).bind fun y10=>
 tK.1 [] y10.2.1 (Dop.AU.mk y3.1.1.kind y3.1.1.a y3.1.1.b y3.1.1.c y3.1.1.d y9.1.1.text y3.1.1.n y3.1.1.Af y3.1.1.at_))<|
 (Q9.k y4.2.1).bind fun y8=>
 (Cq.k ([40]:List UInt8) y8.2.1).bind fun y9=>
 ci y9.1.1 (tK.2.1 [] y9.2.1 (Dop.AU.mk 50 y3.1.1.a y3.1.1.b y3.1.1.c y3.1.1.d y8.1.1.text y3.1.1.n y8.1.1.Af y3.1.1.at_))<|
 (Pu.k y8.1.1.Af y9.2.1).bind fun y11=>
 (Cq.k ([61]:List UInt8) y11.2.1).bind fun y12=>
 ci y12.1.1 ((Cq.k ([45]:List UInt8) y12.2.1).bind fun y14=>
 ci y14.1.1 ((IL.k 3 y14.2.1).bind fun y16=>
 ck (Az ((-1)*y16.1.1.n))<|
 (DN.k ([59]:List UInt8) y16.2.1).bind fun y17=>
 (Cr.k (Dop.AU.mk 52 y3.1.1.a y3.1.1.b y3.1.1.c y3.1.1.d y8.1.1.text ((-1)*y16.1.1.n) y11.1.1 y3.1.1.at_) y17.2.1).bind Gx)<|
 (IL.k 3 y14.2.1).bind fun y16=>
 ck (Az (1*y16.1.1.n))<|
 (DN.k ([59]:List UInt8) y16.2.1).bind fun y17=>
 (Cr.k (Dop.AU.mk 52 y3.1.1.a y3.1.1.b y3.1.1.c y3.1.1.d y8.1.1.text (1*y16.1.1.n) y11.1.1 y3.1.1.at_) y17.2.1).bind Gx)<|
 (DN.k ([59]:List UInt8) y12.2.1).bind fun y14=>
 (Cr.k (Dop.AU.mk 52 y3.1.1.a y3.1.1.b y3.1.1.c y3.1.1.d y8.1.1.text y3.1.1.n y11.1.1 y3.1.1.at_) y14.2.1).bind Gx)<|
 (Q9.k y4.2.1).bind fun y7=>
 (Cq.k ([40]:List UInt8) y7.2.1).bind fun y8=>
 ci y8.1.1 (tK.2.1 [] y8.2.1 (Dop.AU.mk 50 y3.1.1.a y3.1.1.b y3.1.1.c y3.1.1.d y7.1.1.text y3.1.1.n y7.1.1.Af y3.1.1.at_))<|
 (Pu.k y7.1.1.Af y8.2.1).bind fun y10=>
 (Cq.k ([61]:List UInt8) y10.2.1).bind fun y11=>
 ci y11.1.1 ((Cq.k ([45]:List UInt8) y11.2.1).bind fun y13=>
 ci y13.1.1 ((IL.k 3 y13.2.1).bind fun y15=>
 ck (Az ((-1)*y15.1.1.n))<|
 (DN.k ([59]:List UInt8) y15.2.1).bind fun y16=>
 (Cr.k (Dop.AU.mk 52 y3.1.1.a y3.1.1.b y3.1.1.c y3.1.1.d y7.1.1.text ((-1)*y15.1.1.n) y10.1.1 y3.1.1.at_) y16.2.1).bind Gx)<|
 (IL.k 3 y13.2.1).bind fun y15=>
 ck (Az (1*y15.1.1.n))<|
 (DN.k ([59]:List UInt8) y15.2.1).bind fun y16=>
 (Cr.k (Dop.AU.mk 52 y3.1.1.a y3.1.1.b y3.1.1.c y3.1.1.d y7.1.1.text (1*y15.1.1.n) y10.1.1 y3.1.1.at_) y16.2.1).bind Gx)<|
 (DN.k ([59]:List UInt8) y11.2.1).bind fun y13=>
 (Cr.k (Dop.AU.mk 52 y3.1.1.a y3.1.1.b y3.1.1.c y3.1.1.d y7.1.1.text y3.1.1.n y10.1.1 y3.1.1.at_) y13.2.1).bind Gx)<|
 (Q9.k y4.2.1).bind fun y6=>
 (Cq.k ([40]:List UInt8) y6.2.1).bind fun y7=>
 ci y7.1.1 (tK.2.1 [] y7.2.1 (Dop.AU.mk 50 y3.1.1.a y3.1.1.b y3.1.1.c y3.1.1.d y6.1.1.text y3.1.1.n y6.1.1.Af y3.1.1.at_))<|
 (Pu.k y6.1.1.Af y7.2.1).bind fun y9=>
 (Cq.k ([61]:List UInt8) y9.2.1).bind fun y10=>
 ci y10.1.1 ((Cq.k ([45]:List UInt8) y10.2.1).bind fun y12=>
 ci y12.1.1 ((IL.k 3 y12.2.1).bind fun y14=>
 ck (Az ((-1)*y14.1.1.n))<|
 (DN.k ([59]:List UInt8) y14.2.1).bind fun y15=>
 (Cr.k (Dop.AU.mk 52 y3.1.1.a y3.1.1.b y3.1.1.c y3.1.1.d y6.1.1.text ((-1)*y14.1.1.n) y9.1.1 y3.1.1.at_) y15.2.1).bind Gx)<|
 (IL.k 3 y12.2.1).bind fun y14=>
 ck (Az (1*y14.1.1.n))<|
 (DN.k ([59]:List UInt8) y14.2.1).bind fun y15=>
 (Cr.k (Dop.AU.mk 52 y3.1.1.a y3.1.1.b y3.1.1.c y3.1.1.d y6.1.1.text (1*y14.1.1.n) y9.1.1 y3.1.1.at_) y15.2.1).bind Gx)<|
 (DN.k ([59]:List UInt8) y10.2.1).bind fun y12=>
 (Cr.k (Dop.AU.mk 52 y3.1.1.a y3.1.1.b y3.1.1.c y3.1.1.d y6.1.1.text y3.1.1.n y9.1.1 y3.1.1.at_) y12.2.1).bind Gx
def IT.k (k0:PS):R1 Int PS:=IT.k0 (IT.kL 1000000) k0
def IT.Kc:=kd 46 IT.p fun x=>IT.k x.2.1
theorem IT.Kh:IT.Kc.Holds prog:=F4 AH (hc Ee.Kh (hc FW.Kh (hc M3.Kh (hc DN.Kh (hc IL.Kh (hc Cq.Kh (hc Q9.Kh (hc Pu.Kh (hc Cr.Kh (hc Bl.Kh (hc Gu.IN hn))))))))))) IT.ok (fun t x=>IT.k0 t x.2.1) (fun c=>(fun t4 k0 b1=>c 7 IT.q7 rfl (((),(),t4,()),(k0,(b1,()),())),fun t7 k0 b1=>c 21 IT.jF rfl (((),(),t7,()),(k0,(b1,()),())),())) IT.kS (by kernel_rfl)
abbrev T9.T:Type:=Int->List Dop.AU->List Dop.HH->Int->PS->OA Dop.G2 Int Int
abbrev UA.T:Type:=List Int->List Dop.AU->List Dop.HH->Int->PS->OA Dop.G2 Int Int
abbrev m20.KT:Type:=T9.T×UA.T×Unit
def T9.kB (tK:m20.KT):T9.T:=fun t6 b0_0 b0_1 b0_2 k1=>
 ci (t6<=3) (ck (Cu none (room 40 (k1.types.length+(Dop.HH.mk t6 0 0 []::[]).length)))<|
 ck (Az (t6+1))<|
 tK.1 (t6+1) b0_0 b0_1 b0_2 ((PS.Ud k1 (k1.types++Dop.HH.mk t6 0 0 []::[]))))<|
 tK.2.1 [] b0_0 b0_1 b0_2 k1
def UA.kB (tK:m20.KT):UA.T:=fun t7 b0_0 b0_1 b0_2 k1=>
 ci (k1.e=0) ((Ee.k k1).bind fun y3=>
 ci (!(y3.1.1.kind=0)) ((IT.k y3.2.1).bind fun y5=>
 ck (Cu none (room 8 (t7.length+(y5.1.1::[]).length)))<|
 tK.2.1 (t7++y5.1.1::[]) b0_0 b0_1 b0_2 y5.2.1)<|
 (Bl.k t7 y3.2.1).bind fun y5=>
 ci (!(PS.e y5.2.1=0)) (Js (Dop.G2.mk [] [] 0) (PS.when y5.2.1) (PS.e y5.2.1))<|
 Js (Dop.G2.mk (PS.nodes y5.2.1) (PS.types y5.2.1) y5.1.1) 0 0)<|
 (Bl.k t7 k1).bind fun y3=>
 ci (!(PS.e y3.2.1=0)) (Js (Dop.G2.mk [] [] 0) (PS.when y3.2.1) (PS.e y3.2.1))<|
 Js (Dop.G2.mk (PS.nodes y3.2.1) (PS.types y3.2.1) y3.1.1) 0 0
def m20.kS (tK:m20.KT):m20.KT:=(T9.kB tK,UA.kB tK,())
def m20.kL (n:Nat):m20.KT:=Cw m20.kS n
def m20.k0 (tK:m20.KT) (o:List Dop.Tok):OA Dop.G2 Int Int:=
 tK.1 0 [] [] 0 ((o,0,[],[],0,0,0,0,()))
def m20.k (o:List Dop.Tok):OA Dop.G2 Int Int:=m20.k0 (m20.kL 1000000) o
def m20.Kc:=kd 20 m20.p fun x=>m20.k x.1.1
theorem m20.Kh:m20.Kc.Holds prog:=F4 AH (hc Ee.Kh (hc IT.Kh (hc Bl.Kh hn))) m20.ok (fun t x=>m20.k0 t x.1.1) (fun c=>(fun t6 b0_0 b0_1 b0_2 k1=>c 3 m20.q3 rfl (((),(),t6,()),((b0_0,b0_1,b0_2,()),k1,())),fun t7 b0_0 b0_1 b0_2 k1=>c 7 m20.q7 rfl (((),(),t7,()),((b0_0,b0_1,b0_2,()),k1,())),())) m20.kS (by kernel_rfl)
def VL.k (s:List UInt8):OA Dop.G2 Int Int:=
 (m19.k s).bind fun y2=>
 ci (!(y2.1.2.2.1=0)) (Js (Dop.G2.mk [] [] 0) y2.1.2.1 y2.1.2.2.1)<|
 (m20.k y2.1.1).bind mF
def VL.Kc:=kd 41 VL.p fun x=>VL.k x.1.1
theorem VL.Kh:VL.Kc.Holds prog:=kh AH (hc m19.Kh (hc m20.Kh hn)) VL.ok (by kernel_rfl)
end
end Go.Proofs.Tryz
