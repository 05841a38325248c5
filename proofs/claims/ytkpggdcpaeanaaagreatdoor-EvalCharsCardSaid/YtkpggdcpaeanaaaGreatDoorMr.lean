/- parser.list in plain words. -/
import Derived.Test.YtkpggdcpaeanaaaGreatDoorMq
import Derived.Test.YtkpggdcpaeanaaaGreatDoorMj
set_option linter.all false
set_option maxRecDepth 100000
namespace Go.Proofs.Tryz
open Go Go.En
noncomputable section
def Bl.dR {R:Type} (x:Int) (p:PS) (out:Int) (f:Int->PS->Option R):Option R:=(G9.k x p).bind fun y=>(FW.k 20 y.1.1).bind fun z=>(Cr.k (Dop.AU.mk z.1.1.kind x out z.1.1.c z.1.1.d z.1.1.text z.1.1.n z.1.1.Af z.1.1.at_) y.2.1).bind fun v=>f v.1.1 v.2.1
def Bl.dQ:List Int->PS->Int->Option ((Int×Unit)×(PS×Unit))
 | [],p,out=>some ((out,()),(p,()))
 | x::r,p,out=>Bl.dR x p out fun o q=>Bl.dQ r q o
def Bl.k (l:List Int) (p:PS):Option ((Int×Unit)×(PS×Unit)):=match decide (l.length<9223372036854775807) with
 | true=>Bl.dQ l.reverse p (-1)
 | false=>none
theorem Bl.Xa (x:Int) (p:PS) (out:Int):Bl.step x ((),(p,((),()),(out,()),()))=Bl.dR x p out fun o q=>some ((),(q,((),()),(o,()),())):=by kernel_rfl
theorem Bl.Mi: ∀ (l:List Int) (p:PS) (out:Int),((Bl.go l ((),(p,((),()),(out,()),()))).bind fun y=>some ((y.2.2.2.1.1,()),(y.2.1,())))=Bl.dQ l p out
 | [],p,out=>rfl
 | x::r,p,out=>(congrArg (fun z=>(Option.bind z (Bl.go r)).bind fun y=>some ((y.2.2.2.1.1,()),(y.2.1,()))) (Bl.Xa x p out)).trans (by
  unfold Bl.dR
  simp only [Option.bind_assoc,Option.bind_some]
  exact congrArg _ (funext fun y=>congrArg _ (funext fun z=>congrArg _ (funext fun v=>Bl.Mi r v.2.1 v.1.1))))
theorem Bl.bz (x):Bl.R x=Bl.k x.1.2.1 x.2.1:=by
 unfold Bl.R Bl.k
 cases decide (x.1.2.1.length<9223372036854775807) with
 | true=>exact Bl.Mi _ _ _
 | false=>rfl
def Bl.Kc:Bw Dop.D4:=⟨47,Bl.p.bn,Bl.p.sp,Bl.p.rs,Bl.p.flat,.opt fun x=>Bl.k x.1.2.1 x.2.1⟩
theorem Bl.Kh:Bl.Kc.Holds prog:=SW Bl.holds (by unfold Bl.Kc Bl.c;rw [show Bl.R=fun x=>Bl.k x.1.2.1 x.2.1 from funext Bl.bz])
end
end Go.Proofs.Tryz
set_option maxRecDepth 100000
set_option maxHeartbeats 4000000
namespace Go.Proofs.Tryz
open Go Go.En
noncomputable section
def LB.k :Ei (List (List UInt8)):=
 CO (([124,124]:List UInt8)::([38,38]:List UInt8)::([124]:List UInt8)::([94]:List UInt8)::([38]:List UInt8)::([61,61,32,33,61]:List UInt8)::([60,32,60,61,32,62,32,62,61]:List UInt8)::([60,60,32,62,62]:List UInt8)::([43,32,45]:List UInt8)::([42,32,47,32,37]:List UInt8)::[])
def LB.Kc:=kd 262 LB.p fun x=>LB.k
theorem LB.Kh:LB.Kc.Holds prog:=kh AH hn LB.ok (by kernel_rfl)
abbrev Df.kr (r:Ar.T) (k0:PS):R1 Int PS:=r.1 (((),()),(k0,()))
abbrev C9.kr (r:Ar.T) (k0:PS):R1 Int PS:=r.2.1 (((),(),()),(k0,()))
abbrev Jj.kr (r:Ar.T) (k0:PS):R1 Int PS:=r.2.2.2.1 (((),()),(k0,()))
abbrev C1.kr (r:Ar.T) (k:Int) (k0:PS):R1 Int PS:=r.2.2.2.2.1 (((),k,()),(k0,()))
abbrev Dh.kr (r:Ar.T) (k0:PS):R1 Int PS:=r.2.2.2.2.2.1 (((),()),(k0,()))
abbrev CF.kr (r:Ar.T) (k0:PS):R1 Int PS:=r.2.2.2.2.2.2.1 (((),(),()),(k0,()))
abbrev Jk.kr (r:Ar.T) (k0:PS):R1 Int PS:=r.2.2.2.2.2.2.2.1 (((),()),(k0,()))
abbrev Dx.kr (r:Ar.T) (k0:PS):R1 Int PS:=r.2.2.2.2.2.2.2.2.1 (((),()),(k0,()))
abbrev Di.kr (r:Ar.T) (t1:Int) (k0:PS):R1 Int PS:=r.2.2.2.2.2.2.2.2.2.1 (((),t1,()),(k0,()))
abbrev DA.kr (r:Ar.T) (k0:PS):R1 Int PS:=r.2.2.2.2.2.2.2.2.2.2.1 (((),(),()),(k0,()))
def Df.kf (rK:Ar.T) (k0:PS):R1 Int PS:=
 (C9.kr rK k0).bind Gx
abbrev Pd.T:Type:=Int->(List (List UInt8))->Int->Int->PS->R1 Int PS
abbrev Dw.KT:Type:=Pd.T×Unit
def Pd.kB (rK:Ar.T) (tK:Dw.KT):Pd.T:=fun a t10 t11 t12 k0=>
 let A1:=List.getD t10 t12.toNat []
 ci (t12<t11) (ck (0<=t12/\t12<I t10.length)<|
 ck (t12.toNat<t10.length)<|
 (Ee.k k0).bind fun y3=>
 (Cq.k A1 y3.2.1).bind fun y4=>
 ci y4.1.1 ((FW.k 5 y3.1.1.at_).bind fun y6=>
 (Df.kr rK y4.2.1).bind fun y7=>
 (Cr.k (Dop.AU.mk y6.1.1.kind a y7.1.1 y6.1.1.c y6.1.1.d A1 y6.1.1.n y6.1.1.Af y6.1.1.at_) y7.2.1).bind Gx)<|
 ck (Az (t12+1))<|
 tK.1 a t10 t11 (t12+1) y4.2.1)<|
 CR a k0
def Dw.kS (rK:Ar.T) (tK:Dw.KT):Dw.KT:=(Pd.kB rK tK,())
def Dw.kL (rK:Ar.T) (n:Nat):Dw.KT:=Cw (Dw.kS rK) n
def Dw.k0 (rK:Ar.T) (tK:Dw.KT) (k0:PS):R1 Int PS:=
 (Jj.kr rK k0).bind fun y2=>
 ck (ZB ([61,32,43,61,32,45,61,32,42,61,32,47,61,32,37,61,32,38,61,32,124,61,32,94,61,32,60,60,61,32,62,62,61]:List UInt8) && ((Lib.fields ([61,32,43,61,32,45,61,32,42,61,32,47,61,32,37,61,32,38,61,32,124,61,32,94,61,32,60,60,61,32,62,62,61]:List UInt8)).length<=maxLen))<|
 tK.1 y2.1.1 (List.map (fun (a:List UInt8)=>a) (Lib.fields ([61,32,43,61,32,45,61,32,42,61,32,47,61,32,37,61,32,38,61,32,124,61,32,94,61,32,60,60,61,32,62,62,61]:List UInt8))) (I (List.map (fun (a:List UInt8)=>a) (Lib.fields ([61,32,43,61,32,45,61,32,42,61,32,47,61,32,37,61,32,38,61,32,124,61,32,94,61,32,60,60,61,32,62,62,61]:List UInt8))).length) 0 y2.2.1
def Dw.kf (rK:Ar.T) (k0:PS):R1 Int PS:=Dw.k0 rK (Dw.kL rK 1000000) k0
def Jj.kf (rK:Ar.T) (k0:PS):R1 Int PS:=
 (C1.kr rK 0 k0).bind fun y2=>
 (Ee.k y2.2.1).bind fun y3=>
 (Cq.k ([63]:List UInt8) y3.2.1).bind fun y4=>
 ci (!y4.1.1) (CR y2.1.1 y4.2.1)<|
 (FW.k 6 y3.1.1.at_).bind fun y6=>
 (Df.kr rK y4.2.1).bind fun y7=>
 (DN.k ([58]:List UInt8) y7.2.1).bind fun y8=>
 (DA.kr rK y8.2.1).bind fun y9=>
 (Cr.k (Dop.AU.mk y6.1.1.kind y2.1.1 y7.1.1 y9.1.1 y6.1.1.d y6.1.1.text y6.1.1.n y6.1.1.Af y6.1.1.at_) y9.2.1).bind Gx
abbrev Pf.T:Type:=Int->Int->PS->R1 Int PS
abbrev Pg.T:Type:=Int->Int->(List (List UInt8))->Int->Int->PS->R1 Int PS
abbrev C1.KT:Type:=Pf.T×Pg.T×Unit
def Pf.kB (rK:Ar.T) (tK:C1.KT):Pf.T:=fun k a k0=>
 (LB.k).bind fun y2=>
 ck (0<=k/\k<I y2.1.1.length)<|
 ck (k.toNat<y2.1.1.length)<|
 ck (ZB (List.getD y2.1.1 k.toNat []) && ((Lib.fields (List.getD y2.1.1 k.toNat [])).length<=maxLen))<|
 tK.2.1 k a (List.map (fun (a:List UInt8)=>a) (Lib.fields (List.getD y2.1.1 k.toNat []))) (I (List.map (fun (a:List UInt8)=>a) (Lib.fields (List.getD y2.1.1 k.toNat []))).length) 0 k0
def Pg.kB (rK:Ar.T) (tK:C1.KT):Pg.T:=fun k a t24 t25 t26 k0=>
 let A1:=List.getD t24 t26.toNat []
 ci (t26<t25) (ck (0<=t26/\t26<I t24.length)<|
 ck (t26.toNat<t24.length)<|
 (Ee.k k0).bind fun y3=>
 (Cq.k A1 y3.2.1).bind fun y4=>
 ci y4.1.1 ((FW.k 4 y3.1.1.at_).bind fun y6=>
 ck (Az (k+1))<|
 (C1.kr rK (k+1) y4.2.1).bind fun y7=>
 (Cr.k (Dop.AU.mk y6.1.1.kind a y7.1.1 y6.1.1.c y6.1.1.d A1 y6.1.1.n y6.1.1.Af y6.1.1.at_) y7.2.1).bind fun y8=>
 tK.1 k y8.1.1 y8.2.1)<|
 ck (Az (t26+1))<|
 tK.2.1 k a t24 t25 (t26+1) y4.2.1)<|
 CR a k0
def C1.kS (rK:Ar.T) (tK:C1.KT):C1.KT:=(Pf.kB rK tK,Pg.kB rK tK,())
def C1.kL (rK:Ar.T) (n:Nat):C1.KT:=Cw (C1.kS rK) n
def C1.k0 (rK:Ar.T) (tK:C1.KT) (k:Int) (k0:PS):R1 Int PS:=
 (LB.k).bind fun y2=>
 ci (k=I y2.1.1.length) ((Dh.kr rK k0).bind Gx)<|
 ck (Az (k+1))<|
 (C1.kr rK (k+1) k0).bind fun y4=>
 tK.1 k y4.1.1 y4.2.1
def C1.kf (rK:Ar.T) (k:Int) (k0:PS):R1 Int PS:=C1.k0 rK (C1.kL rK 1000000) k k0
abbrev Ph.T:Type:=Int->(List (List UInt8))->Int->Int->PS->R1 Int PS
abbrev Dh.KT:Type:=Ph.T×Unit
def Ph.kB (rK:Ar.T) (tK:Dh.KT):Ph.T:=fun t3 t13 t14 t15 k0=>
 let A1:=List.getD t13 t15.toNat []
 ci (t15<t14) (ck (0<=t15/\t15<I t13.length)<|
 ck (t15.toNat<t13.length)<|
 (Cq.k A1 k0).bind fun y3=>
 ci y3.1.1 ((FW.k 3 t3).bind fun y5=>
 ci (I A1.length=2) ((CF.kr rK y3.2.1).bind fun y7=>
 (Cr.k (Dop.AU.mk 12 y7.1.1 y5.1.1.b y5.1.1.c y5.1.1.d A1 y5.1.1.n y5.1.1.Af y5.1.1.at_) y7.2.1).bind Gx)<|
 (CF.kr rK y3.2.1).bind fun y7=>
 (Cr.k (Dop.AU.mk y5.1.1.kind y7.1.1 y5.1.1.b y5.1.1.c y5.1.1.d A1 y5.1.1.n y5.1.1.Af y5.1.1.at_) y7.2.1).bind Gx)<|
 ck (Az (t15+1))<|
 tK.1 t3 t13 t14 (t15+1) y3.2.1)<|
 (Cq.k ([115,105,122,101,111,102]:List UInt8) k0).bind fun y3=>
 ci y3.1.1 ((FW.k 11 t3).bind fun y5=>
 (DN.k ([40]:List UInt8) y3.2.1).bind fun y6=>
 (DL.k y6.2.1).bind fun y7=>
 (Pu.k y7.1.1 y7.2.1).bind fun y8=>
 (DN.k ([41]:List UInt8) y8.2.1).bind fun y9=>
 (Cr.k (Dop.AU.mk y5.1.1.kind y5.1.1.a y5.1.1.b y5.1.1.c y5.1.1.d y5.1.1.text y5.1.1.n y8.1.1 y5.1.1.at_) y9.2.1).bind Gx)<|
 (M3.k ([40]:List UInt8) y3.2.1).bind fun y5=>
 ci y5.1.1 (ck (Az (PS.at_ y5.2.1+1))<|
 ci (PS.at_ y5.2.1+1<I (PS.l y5.2.1).length) (ck (Az (PS.at_ y5.2.1+1))<|
 (Hb.k (PS.l y5.2.1) (PS.at_ y5.2.1+1) (PS.top y5.2.1) (PS.deep y5.2.1) (PS.e y5.2.1) (PS.when y5.2.1)).bind fun y8=>
 ci y8.1.1 ((FW.k 10 t3).bind fun y10=>
 (DN.k ([40]:List UInt8) y5.2.1).bind fun y11=>
 (DL.k y11.2.1).bind fun y12=>
 (DN.k ([41]:List UInt8) y12.2.1).bind fun y13=>
 (CF.kr rK y13.2.1).bind fun y14=>
 (Cr.k (Dop.AU.mk y10.1.1.kind y14.1.1 y10.1.1.b y10.1.1.c y10.1.1.d y10.1.1.text y10.1.1.n y12.1.1 y10.1.1.at_) y14.2.1).bind Gx)<|
 (Jk.kr rK y5.2.1).bind fun y10=>
 (Di.kr rK y10.1.1 y10.2.1).bind Gx)<|
 (Jk.kr rK y5.2.1).bind fun y8=>
 (Di.kr rK y8.1.1 y8.2.1).bind Gx)<|
 (Jk.kr rK y5.2.1).bind fun y7=>
 (Di.kr rK y7.1.1 y7.2.1).bind Gx
def Dh.kS (rK:Ar.T) (tK:Dh.KT):Dh.KT:=(Ph.kB rK tK,())
def Dh.kL (rK:Ar.T) (n:Nat):Dh.KT:=Cw (Dh.kS rK) n
def Dh.k0 (rK:Ar.T) (tK:Dh.KT) (k0:PS):R1 Int PS:=
 (Ee.k k0).bind fun y2=>
 ck (ZB ([43,43,32,45,45,32,45,32,33,32,126,32,42,32,38]:List UInt8) && ((Lib.fields ([43,43,32,45,45,32,45,32,33,32,126,32,42,32,38]:List UInt8)).length<=maxLen))<|
 tK.1 y2.1.1.at_ (List.map (fun (a:List UInt8)=>a) (Lib.fields ([43,43,32,45,45,32,45,32,33,32,126,32,42,32,38]:List UInt8))) (I (List.map (fun (a:List UInt8)=>a) (Lib.fields ([43,43,32,45,45,32,45,32,33,32,126,32,42,32,38]:List UInt8))).length) 0 y2.2.1
def Dh.kf (rK:Ar.T) (k0:PS):R1 Int PS:=Dh.k0 rK (Dh.kL rK 1000000) k0
def Jk.kf (rK:Ar.T) (k0:PS):R1 Int PS:=
 (Ee.k k0).bind fun y2=>
 (FW.k 1 y2.1.1.at_).bind fun y3=>
 ci (y2.1.1.kind=3) (ck (Az (PS.at_ y2.2.1+1))<|
 (Cr.k (Dop.AU.mk y3.1.1.kind y3.1.1.a y3.1.1.b y3.1.1.c y3.1.1.d y3.1.1.text y2.1.1.n y3.1.1.Af y3.1.1.at_) ((PS.Uc y2.2.1 (PS.at_ y2.2.1+1)))).bind Gx)<|
 ci (y2.1.1.kind=1) (ck (Az (PS.at_ y2.2.1+1))<|
 (Cq.k ([40]:List UInt8) ((PS.Uc y2.2.1 (PS.at_ y2.2.1+1)))).bind fun y6=>
 ci y6.1.1 ((Dx.kr rK y6.2.1).bind fun y8=>
 (Cr.k (Dop.AU.mk 9 y8.1.1 y3.1.1.b y3.1.1.c y3.1.1.d y2.1.1.text y3.1.1.n y3.1.1.Af y3.1.1.at_) y8.2.1).bind Gx)<|
 (Cr.k (Dop.AU.mk 2 y3.1.1.a y3.1.1.b y3.1.1.c y3.1.1.d y2.1.1.text y3.1.1.n y3.1.1.Af y3.1.1.at_) y6.2.1).bind Gx)<|
 (Cq.k ([40]:List UInt8) y2.2.1).bind fun y6=>
 ci y6.1.1 ((Df.kr rK y6.2.1).bind fun y8=>
 (DN.k ([41]:List UInt8) y8.2.1).bind fun y9=>
 CR y8.1.1 y9.2.1)<|
 (Cq.k ([103,101,116,99]:List UInt8) y6.2.1).bind fun y8=>
 ci y8.1.1 ((DN.k ([40]:List UInt8) y8.2.1).bind fun y10=>
 (DN.k ([41]:List UInt8) y10.2.1).bind fun y11=>
 (Cr.k (Dop.AU.mk 14 y3.1.1.a y3.1.1.b y3.1.1.c y3.1.1.d y3.1.1.text y3.1.1.n y3.1.1.Af y3.1.1.at_) y11.2.1).bind Gx)<|
 (DN.k ([112,117,116,99]:List UInt8) y8.2.1).bind fun y10=>
 (DN.k ([40]:List UInt8) y10.2.1).bind fun y11=>
 (Df.kr rK y11.2.1).bind fun y12=>
 (DN.k ([41]:List UInt8) y12.2.1).bind fun y13=>
 (Cr.k (Dop.AU.mk 15 y12.1.1 y3.1.1.b y3.1.1.c y3.1.1.d y3.1.1.text y3.1.1.n y3.1.1.Af y3.1.1.at_) y13.2.1).bind Gx
abbrev Pk.T:Type:=List Int->PS->R1 Int PS
abbrev Dx.KT:Type:=Pk.T×Unit
def Pk.kB (rK:Ar.T) (tK:Dx.KT):Pk.T:=fun l k0=>
 let F1:Y1 Int PS->R1 Int PS:=fun y6=>
 ck (Cu none (room 8 (l.length+(y6.1.1::[]).length)))<|
 tK.1 (l++y6.1.1::[]) y6.2.1
 (Cq.k ([41]:List UInt8) k0).bind fun y2=>
 ci (!y2.1.1) (ci (PS.e y2.2.1=0) (ci (0<I l.length) ((DN.k ([44]:List UInt8) y2.2.1).bind fun y6=>
 (Df.kr rK y6.2.1).bind F1)<|
 (Df.kr rK y2.2.1).bind F1)<|
 (Bl.k l y2.2.1).bind Gx)<|
 (Bl.k l y2.2.1).bind Gx
def Dx.kS (rK:Ar.T) (tK:Dx.KT):Dx.KT:=(Pk.kB rK tK,())
def Dx.kL (rK:Ar.T) (n:Nat):Dx.KT:=Cw (Dx.kS rK) n
def Dx.k0 (rK:Ar.T) (tK:Dx.KT) (k0:PS):R1 Int PS:=
 tK.1 [] k0
def Dx.kf (rK:Ar.T) (k0:PS):R1 Int PS:=Dx.k0 rK (Dx.kL rK 1000000) k0
abbrev Pj.T:Type:=Int->PS->R1 Int PS
abbrev Di.KT:Type:=Pj.T×Unit
def Pj.kB (rK:Ar.T) (tK:Di.KT):Pj.T:=fun t1 k0=>
 ci (k0.e=0) ((Ee.k k0).bind fun y3=>
 (FW.k 7 y3.1.1.at_).bind fun y4=>
 (Cq.k ([91]:List UInt8) y3.2.1).bind fun y5=>
 ci y5.1.1 ((Df.kr rK y5.2.1).bind fun y7=>
 (DN.k ([93]:List UInt8) y7.2.1).bind fun y8=>
 (Cr.k (Dop.AU.mk y4.1.1.kind t1 y7.1.1 y4.1.1.c y4.1.1.d y4.1.1.text y4.1.1.n y4.1.1.Af y4.1.1.at_) y8.2.1).bind fun y9=>
 tK.1 y9.1.1 y9.2.1)<|
 (Cq.k ([46]:List UInt8) y5.2.1).bind fun y7=>
 ci y7.1.1 (ci y7.1.1 (ck (Az (PS.at_ y7.2.1 -1))<|
 ck (0<=PS.at_ y7.2.1 -1/\PS.at_ y7.2.1 -1<I (PS.l y7.2.1).length)<|
 ci ((List.getD (PS.l y7.2.1) (PS.at_ y7.2.1 -1).toNat Dop.d4).text=(45:UInt8)::(62:UInt8)::[]) ((IL.k 1 y7.2.1).bind fun y11=>
 (Cr.k (Dop.AU.mk 8 t1 y4.1.1.b y4.1.1.c y4.1.1.d y11.1.1.text 1 y4.1.1.Af y4.1.1.at_) y11.2.1).bind fun y12=>
 tK.1 y12.1.1 y12.2.1)<|
 (IL.k 1 y7.2.1).bind fun y11=>
 (Cr.k (Dop.AU.mk 8 t1 y4.1.1.b y4.1.1.c y4.1.1.d y11.1.1.text y4.1.1.n y4.1.1.Af y4.1.1.at_) y11.2.1).bind fun y12=>
 tK.1 y12.1.1 y12.2.1)<|
 (Cq.k ([43,43]:List UInt8) y7.2.1).bind fun y10=>
 ci y10.1.1 (ci y10.1.1 (ck (Az (PS.at_ y10.2.1 -1))<|
 ck (0<=PS.at_ y10.2.1 -1/\PS.at_ y10.2.1 -1<I (PS.l y10.2.1).length)<|
 (Cr.k (Dop.AU.mk 13 t1 y4.1.1.b y4.1.1.c y4.1.1.d (List.getD (PS.l y10.2.1) (PS.at_ y10.2.1 -1).toNat Dop.d4).text y4.1.1.n y4.1.1.Af y4.1.1.at_) y10.2.1).bind fun y13=>
 tK.1 y13.1.1 y13.2.1)<|
 CR t1 y10.2.1)<|
 (Cq.k ([45,45]:List UInt8) y10.2.1).bind fun y12=>
 ci y12.1.1 (ck (Az (PS.at_ y12.2.1 -1))<|
 ck (0<=PS.at_ y12.2.1 -1/\PS.at_ y12.2.1 -1<I (PS.l y12.2.1).length)<|
 (Cr.k (Dop.AU.mk 13 t1 y4.1.1.b y4.1.1.c y4.1.1.d (List.getD (PS.l y12.2.1) (PS.at_ y12.2.1 -1).toNat Dop.d4).text y4.1.1.n y4.1.1.Af y4.1.1.at_) y12.2.1).bind fun y14=>
 tK.1 y14.1.1 y14.2.1)<|
 CR t1 y12.2.1)<|
 (Cq.k ([45,62]:List UInt8) y7.2.1).bind fun y9=>
 ci y9.1.1 (ck (Az (PS.at_ y9.2.1 -1))<|
 ck (0<=PS.at_ y9.2.1 -1/\PS.at_ y9.2.1 -1<I (PS.l y9.2.1).length)<|
 ci ((List.getD (PS.l y9.2.1) (PS.at_ y9.2.1 -1).toNat Dop.d4).text=(45:UInt8)::(62:UInt8)::[]) ((IL.k 1 y9.2.1).bind fun y12=>
 (Cr.k (Dop.AU.mk 8 t1 y4.1.1.b y4.1.1.c y4.1.1.d y12.1.1.text 1 y4.1.1.Af y4.1.1.at_) y12.2.1).bind fun y13=>
 tK.1 y13.1.1 y13.2.1)<|
 (IL.k 1 y9.2.1).bind fun y12=>
 (Cr.k (Dop.AU.mk 8 t1 y4.1.1.b y4.1.1.c y4.1.1.d y12.1.1.text y4.1.1.n y4.1.1.Af y4.1.1.at_) y12.2.1).bind fun y13=>
 tK.1 y13.1.1 y13.2.1)<|
 (Cq.k ([43,43]:List UInt8) y9.2.1).bind fun y11=>
 ci y11.1.1 (ci y11.1.1 (ck (Az (PS.at_ y11.2.1 -1))<|
 ck (0<=PS.at_ y11.2.1 -1/\PS.at_ y11.2.1 -1<I (PS.l y11.2.1).length)<|
 (Cr.k (Dop.AU.mk 13 t1 y4.1.1.b y4.1.1.c y4.1.1.d (List.getD (PS.l y11.2.1) (PS.at_ y11.2.1 -1).toNat Dop.d4).text y4.1.1.n y4.1.1.Af y4.1.1.at_) y11.2.1).bind fun y14=>
 tK.1 y14.1.1 y14.2.1)<|
 CR t1 y11.2.1)<|
 (Cq.k ([45,45]:List UInt8) y11.2.1).bind fun y13=>
 ci y13.1.1 (ck (Az (PS.at_ y13.2.1 -1))<|
 ck (0<=PS.at_ y13.2.1 -1/\PS.at_ y13.2.1 -1<I (PS.l y13.2.1).length)<|
 (Cr.k (Dop.AU.mk 13 t1 y4.1.1.b y4.1.1.c y4.1.1.d (List.getD (PS.l y13.2.1) (PS.at_ y13.2.1 -1).toNat Dop.d4).text y4.1.1.n y4.1.1.Af y4.1.1.at_) y13.2.1).bind fun y15=>
 tK.1 y15.1.1 y15.2.1)<|
 CR t1 y13.2.1)<|
 CR (-1) k0
def Di.kS (rK:Ar.T) (tK:Di.KT):Di.KT:=(Pj.kB rK tK,())
def Di.kL (rK:Ar.T) (n:Nat):Di.KT:=Cw (Di.kS rK) n
def Di.k0 (rK:Ar.T) (tK:Di.KT) (t1:Int) (k0:PS):R1 Int PS:=
 tK.1 t1 k0
def Di.kf (rK:Ar.T) (t1:Int) (k0:PS):R1 Int PS:=Di.k0 rK (Di.kL rK 1000000) t1 k0
def Ar.kS (r:Ar.T):Ar.T:=(fun x=>Df.kf r x.2.1,fun x=>within r.2.2.1 x.2.1,fun x=>Dw.kf r x.2.1,fun x=>Jj.kf r x.2.1,fun x=>C1.kf r x.1.2.1 x.2.1,fun x=>Dh.kf r x.2.1,fun x=>within r.2.2.2.2.2.1 x.2.1,fun x=>Jk.kf r x.2.1,fun x=>Dx.kf r x.2.1,fun x=>Di.kf r x.1.2.1 x.2.1,fun x=>within r.2.2.2.1 x.2.1,())
def Ar.kR (n:Nat):Ar.T:=Cw Ar.kS n
def Df.Kc (n:Nat):=kd 205 Df.p (Ar.kR n).1
def Df.Nn:=Df.Kc FU
def Df.k:=Df.kr (Ar.kR FU)
def C9.Kc (n:Nat):=kd 180 C9.p (Ar.kR n).2.1
abbrev Dw.kq (n:Nat):((Unit×Unit)×(PS×Unit))->Option ((Int×Unit)×(PS×Unit)):=(Ar.kR n).2.2.1
def Dw.Kc (n:Nat):=kd 234 Dw.p (Ar.kR n).2.2.1
abbrev Jj.kq (n:Nat):((Unit×Unit)×(PS×Unit))->Option ((Int×Unit)×(PS×Unit)):=(Ar.kR n).2.2.2.1
def Jj.Kc (n:Nat):=kd 254 Jj.p (Ar.kR n).2.2.2.1
def C1.Kc (n:Nat):=kd 261 C1.p (Ar.kR n).2.2.2.2.1
abbrev Dh.kq (n:Nat):((Unit×Unit)×(PS×Unit))->Option ((Int×Unit)×(PS×Unit)):=(Ar.kR n).2.2.2.2.2.1
def Dh.Kc (n:Nat):=kd 263 Dh.p (Ar.kR n).2.2.2.2.2.1
def CF.Kc (n:Nat):=kd 180 CF.p (Ar.kR n).2.2.2.2.2.2.1
def Jk.Kc (n:Nat):=kd 265 Jk.p (Ar.kR n).2.2.2.2.2.2.2.1
def Dx.Kc (n:Nat):=kd 266 Dx.p (Ar.kR n).2.2.2.2.2.2.2.2.1
def Di.Kc (n:Nat):=kd 264 Di.p (Ar.kR n).2.2.2.2.2.2.2.2.2.1
def DA.Kc (n:Nat):=kd 180 DA.p (Ar.kR n).2.2.2.2.2.2.2.2.2.2.1
def Ar.Ry (n:Nat):List (Bw Dop.D4):=[Df.Kc n,C9.Kc n,Dw.Kc n,Jj.Kc n,C1.Kc n,Dh.Kc n,CF.Kc n,Jk.Kc n,Dx.Kc n,Di.Kc n,DA.Kc n]
theorem Ar.Et: ∀ n,(Df.Kc n).Holds prog/\(C9.Kc n).Holds prog/\(Dw.Kc n).Holds prog/\(Jj.Kc n).Holds prog/\(C1.Kc n).Holds prog/\(Dh.Kc n).Holds prog/\(CF.Kc n).Holds prog/\(Jk.Kc n).Holds prog/\(Dx.Kc n).Holds prog/\(Di.Kc n).Holds prog/\(DA.Kc n).Holds prog/\True
 | 0=>⟨AO AH Df.ok,AO AH (by kernel_rfl),AO AH Dw.ok,AO AH Jj.ok,AO AH C1.ok,AO AH Dh.ok,AO AH (by kernel_rfl),AO AH Jk.ok,AO AH Dx.ok,AO AH Di.ok,AO AH (by kernel_rfl),trivial⟩
 | n+1=>by
  obtain ⟨h0,h1,h2,h3,h4,h5,h6,h7,h8,h9,h10,_⟩:=Ar.Et n
  have hh: ∀ c∈Ar.Ry n,c.Holds prog:=(hc h0 (hc h1 (hc h2 (hc h3 (hc h4 (hc h5 (hc h6 (hc h7 (hc h8 (hc h9 (hc h10 hn)))))))))))
  exact ⟨kh AH (Ab hh hn) Df.ok (by kernel_rfl),
   (lv.holds (m:=Dw.kq n) h2),
   F4 AH (Ab hh (hc fields.holds (hc Ee.Kh (hc Cq.Kh (hc FW.Kh (hc Cr.Kh hn)))))) Dw.ok (fun t x=>Dw.k0 (Ar.kR n) t x.2.1) (fun c=>(fun a t10 t11 t12 k0=>c 3 Dw.q3 rfl (((),a,t10,t11,t12,()),(k0,())),())) (Dw.kS (Ar.kR n)) (by kernel_rfl),
   kh AH (Ab hh (hc Ee.Kh (hc Cq.Kh (hc FW.Kh (hc DN.Kh (hc Cr.Kh hn)))))) Jj.ok (by kernel_rfl),
   F4 AH (Ab hh (hc LB.Kh (hc fields.holds (hc Ee.Kh (hc Cq.Kh (hc FW.Kh (hc Cr.Kh hn))))))) C1.ok (fun t x=>C1.k0 (Ar.kR n) t x.1.2.1 x.2.1) (fun c=>(fun k a k0=>c 4 C1.q4 rfl (((),k,a,()),(k0,())),fun k a t24 t25 t26 k0=>c 5 C1.q5 rfl (((),k,a,t24,t25,t26,()),(k0,())),())) (C1.kS (Ar.kR n)) (by kernel_rfl),
   F4 AH (Ab hh (hc Ee.Kh (hc fields.holds (hc Cq.Kh (hc FW.Kh (hc Cr.Kh (hc DN.Kh (hc DL.Kh (hc Pu.Kh (hc M3.Kh (hc Hb.Kh hn))))))))))) Dh.ok (fun t x=>Dh.k0 (Ar.kR n) t x.2.1) (fun c=>(fun t3 t13 t14 t15 k0=>c 3 Dh.q3 rfl (((),t3,t13,t14,t15,()),(k0,())),())) (Dh.kS (Ar.kR n)) (by kernel_rfl),
   (ly.holds (m:=Dh.kq n) h5),
   kh AH (Ab hh (hc Ee.Kh (hc FW.Kh (hc Cq.Kh (hc DN.Kh (hc Cr.Kh hn)))))) Jk.ok (by kernel_rfl),
   F4 AH (Ab hh (hc Cq.Kh (hc DN.Kh (hc Bl.Kh hn)))) Dx.ok (fun t x=>Dx.k0 (Ar.kR n) t x.2.1) (fun c=>(fun l k0=>c 2 Dx.q2 rfl (((),l,()),(k0,())),())) (Dx.kS (Ar.kR n)) (by kernel_rfl),
   F4 AH (Ab hh (hc Ee.Kh (hc FW.Kh (hc Cq.Kh (hc DN.Kh (hc IL.Kh (hc Cr.Kh hn))))))) Di.ok (fun t x=>Di.k0 (Ar.kR n) t x.1.2.1 x.2.1) (fun c=>(fun t1 k0=>c 1 Di.q1 rfl (((),t1,()),(k0,())),())) (Di.kS (Ar.kR n)) (by kernel_rfl),
   (lx.holds (m:=Jj.kq n) h3),
   trivial⟩
theorem Df.IN:Df.Nn.Holds prog:=(Ar.Et FU).1
end
end Go.Proofs.Tryz
