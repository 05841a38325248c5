/- parser.list in plain words. -/
import Derived.Test.YtikecakpcfpghaaGreatDoorMq
import Derived.Test.YtikecakpcfpghaaGreatDoorMj
set_option linter.all false
set_option maxRecDepth 100000
namespace Go.Proofs.Tryz
open Go Go.En
noncomputable section
def Bt.dz {R:Type} (x:Int) (p:PS) (out:Int) (f:Int->PS->Option R):Option R:=(HL.k x p).bind fun y=>(Fb.k 20 y.1.1).bind fun z=>(EJ.k (Dop.AZ.mk z.1.1.kind x out z.1.1.c z.1.1.d z.1.1.text z.1.1.n z.1.1.CC z.1.1.at_) y.2.1).bind fun v=>f v.1.1 v.2.1
def Bt.dy:List Int->PS->Int->Option ((Int×Unit)×(PS×Unit))
 | [],p,out=>some ((out,()),(p,()))
 | x::r,p,out=>Bt.dz x p out fun o q=>Bt.dy r q o
def Bt.k (l:List Int) (p:PS):Option ((Int×Unit)×(PS×Unit)):=match decide (l.length<9223372036854775807) with
 | true=>Bt.dy l.reverse p (-1)
 | false=>none
theorem Bt.Xu (x:Int) (p:PS) (out:Int):Bt.step x ((),(p,((),()),(out,()),()))=Bt.dz x p out fun o q=>some ((),(q,((),()),(o,()),())):=by kernel_rfl
theorem Bt.M3: ∀ (l:List Int) (p:PS) (out:Int),((Bt.go l ((),(p,((),()),(out,()),()))).bind fun y=>some ((y.2.2.2.1.1,()),(y.2.1,())))=Bt.dy l p out
 | [],p,out=>rfl
 | x::r,p,out=>(congrArg (fun z=>(Option.bind z (Bt.go r)).bind fun y=>some ((y.2.2.2.1.1,()),(y.2.1,()))) (Bt.Xu x p out)).trans (by
  unfold Bt.dz
  simp only [Option.bind_assoc,Option.bind_some]
  exact congrArg _ (funext fun y=>congrArg _ (funext fun z=>congrArg _ (funext fun v=>Bt.M3 r v.2.1 v.1.1))))
theorem Bt.cr (x):Bt.R x=Bt.k x.1.2.1 x.2.1:=by
 unfold Bt.R Bt.k
 cases decide (x.1.2.1.length<9223372036854775807) with
 | true=>exact Bt.M3 _ _ _
 | false=>rfl
def Bt.Kc:By Dop.D4:=⟨30,Bt.p.bn,Bt.p.sp,Bt.p.rs,Bt.p.flat,.opt fun x=>Bt.k x.1.2.1 x.2.1⟩
theorem Bt.Kh:Bt.Kc.Holds prog:=Sn Bt.holds (by unfold Bt.Kc Bt.c;rw [show Bt.R=fun x=>Bt.k x.1.2.1 x.2.1 from funext Bt.cr])
end
set_option maxHeartbeats 4000000
noncomputable section
def LY.k :HH (List (List UInt8)):=
 Ez (([124,124]:List UInt8)::([38,38]:List UInt8)::([124]:List UInt8)::([94]:List UInt8)::([38]:List UInt8)::([61,61,32,33,61]:List UInt8)::([60,32,60,61,32,62,32,62,61]:List UInt8)::([60,60,32,62,62]:List UInt8)::([43,32,45]:List UInt8)::([42,32,47,32,37]:List UInt8)::[])
def LY.Kc:=kd 194 LY.p fun x=>LY.k
theorem LY.Kh:LY.Kc.Holds prog:=kh AH hn LY.ok (by kernel_rfl)
abbrev Dv.kr (r:Av.T) (k0:PS):R1 Int PS:=r.1 (((),()),(k0,()))
abbrev C8.kr (r:Av.T) (k0:PS):R1 Int PS:=r.2.1 (((),(),()),(k0,()))
abbrev Jv.kr (r:Av.T) (k0:PS):R1 Int PS:=r.2.2.2.1 (((),()),(k0,()))
abbrev C2.kr (r:Av.T) (k:Int) (k0:PS):R1 Int PS:=r.2.2.2.2.1 (((),k,()),(k0,()))
abbrev Dj.kr (r:Av.T) (k0:PS):R1 Int PS:=r.2.2.2.2.2.1 (((),()),(k0,()))
abbrev CO.kr (r:Av.T) (k0:PS):R1 Int PS:=r.2.2.2.2.2.2.1 (((),(),()),(k0,()))
abbrev Jw.kr (r:Av.T) (k0:PS):R1 Int PS:=r.2.2.2.2.2.2.2.1 (((),()),(k0,()))
abbrev D9.kr (r:Av.T) (k0:PS):R1 Int PS:=r.2.2.2.2.2.2.2.2.1 (((),()),(k0,()))
abbrev Dk.kr (r:Av.T) (t1:Int) (k0:PS):R1 Int PS:=r.2.2.2.2.2.2.2.2.2.1 (((),t1,()),(k0,()))
abbrev C9.kr (r:Av.T) (k0:PS):R1 Int PS:=r.2.2.2.2.2.2.2.2.2.2.1 (((),(),()),(k0,()))
def Dv.kf (rK:Av.T) (k0:PS):R1 Int PS:=
 (C8.kr rK k0).bind MB
abbrev Pw.T:Type:=Int->(List (List UInt8))->Int->Int->PS->R1 Int PS
abbrev D7.KT:Type:=Pw.T×Unit
def Pw.kB (rK:Av.T) (tK:D7.KT):Pw.T:=fun a t10 t11 t12 k0=>
 let A1:=List.getD t10 t12.toNat []
 ci (t12<t11) (ck (0<=t12/\t12<I t10.length)<|
 ck (t12.toNat<t10.length)<|
 (Ei.k k0).bind fun y3=>
 (Ex.k A1 y3.2.1).bind fun y4=>
 ci y4.1.1 ((Fb.k 5 y3.1.1.at_).bind fun y6=>
 (Dv.kr rK y4.2.1).bind fun y7=>
 (EJ.k (Dop.AZ.mk y6.1.1.kind a y7.1.1 y6.1.1.c y6.1.1.d A1 y6.1.1.n y6.1.1.CC y6.1.1.at_) y7.2.1).bind MB)<|
 ck (BD (t12+1))<|
 tK.1 a t10 t11 (t12+1) y4.2.1)<|
 Cn a k0
def D7.kS (rK:Av.T) (tK:D7.KT):D7.KT:=(Pw.kB rK tK,())
def D7.kL (rK:Av.T) (n:Nat):D7.KT:=C5 (D7.kS rK) n
def D7.k0 (rK:Av.T) (tK:D7.KT) (k0:PS):R1 Int PS:=
 (Jv.kr rK k0).bind fun y2=>
 ck (cI ([61,32,43,61,32,45,61,32,42,61,32,47,61,32,37,61,32,38,61,32,124,61,32,94,61,32,60,60,61,32,62,62,61]:List UInt8) && ((Lib.fields ([61,32,43,61,32,45,61,32,42,61,32,47,61,32,37,61,32,38,61,32,124,61,32,94,61,32,60,60,61,32,62,62,61]:List UInt8)).length<=maxLen))<|
 tK.1 y2.1.1 (List.map (fun (a:List UInt8)=>a) (Lib.fields ([61,32,43,61,32,45,61,32,42,61,32,47,61,32,37,61,32,38,61,32,124,61,32,94,61,32,60,60,61,32,62,62,61]:List UInt8))) (I (List.map (fun (a:List UInt8)=>a) (Lib.fields ([61,32,43,61,32,45,61,32,42,61,32,47,61,32,37,61,32,38,61,32,124,61,32,94,61,32,60,60,61,32,62,62,61]:List UInt8))).length) 0 y2.2.1
def D7.kf (rK:Av.T) (k0:PS):R1 Int PS:=D7.k0 rK (D7.kL rK 1000000) k0
def Jv.kf (rK:Av.T) (k0:PS):R1 Int PS:=
 (C2.kr rK 0 k0).bind fun y2=>
 (Ei.k y2.2.1).bind fun y3=>
 (Ex.k ([63]:List UInt8) y3.2.1).bind fun y4=>
 ci (!y4.1.1) (Cn y2.1.1 y4.2.1)<|
 (Fb.k 6 y3.1.1.at_).bind fun y6=>
 (Dv.kr rK y4.2.1).bind fun y7=>
 (GC.k ([58]:List UInt8) y7.2.1).bind fun y8=>
 (C9.kr rK y8.2.1).bind fun y9=>
 (EJ.k (Dop.AZ.mk y6.1.1.kind y2.1.1 y7.1.1 y9.1.1 y6.1.1.d y6.1.1.text y6.1.1.n y6.1.1.CC y6.1.1.at_) y9.2.1).bind MB
abbrev Py.T:Type:=Int->Int->PS->R1 Int PS
abbrev Pz.T:Type:=Int->Int->(List (List UInt8))->Int->Int->PS->R1 Int PS
abbrev C2.KT:Type:=Py.T×Pz.T×Unit
def Py.kB (rK:Av.T) (tK:C2.KT):Py.T:=fun k a k0=>
 (LY.k).bind fun y2=>
 ck (0<=k/\k<I y2.1.1.length)<|
 ck (k.toNat<y2.1.1.length)<|
 ck (cI (List.getD y2.1.1 k.toNat []) && ((Lib.fields (List.getD y2.1.1 k.toNat [])).length<=maxLen))<|
 tK.2.1 k a (List.map (fun (a:List UInt8)=>a) (Lib.fields (List.getD y2.1.1 k.toNat []))) (I (List.map (fun (a:List UInt8)=>a) (Lib.fields (List.getD y2.1.1 k.toNat []))).length) 0 k0
def Pz.kB (rK:Av.T) (tK:C2.KT):Pz.T:=fun k a t24 t25 t26 k0=>
 let A1:=List.getD t24 t26.toNat []
 ci (t26<t25) (ck (0<=t26/\t26<I t24.length)<|
 ck (t26.toNat<t24.length)<|
 (Ei.k k0).bind fun y3=>
 (Ex.k A1 y3.2.1).bind fun y4=>
 ci y4.1.1 ((Fb.k 4 y3.1.1.at_).bind fun y6=>
 ck (BD (k+1))<|
 (C2.kr rK (k+1) y4.2.1).bind fun y7=>
 (EJ.k (Dop.AZ.mk y6.1.1.kind a y7.1.1 y6.1.1.c y6.1.1.d A1 y6.1.1.n y6.1.1.CC y6.1.1.at_) y7.2.1).bind fun y8=>
 tK.1 k y8.1.1 y8.2.1)<|
 ck (BD (t26+1))<|
 tK.2.1 k a t24 t25 (t26+1) y4.2.1)<|
 Cn a k0
def C2.kS (rK:Av.T) (tK:C2.KT):C2.KT:=(Py.kB rK tK,Pz.kB rK tK,())
def C2.kL (rK:Av.T) (n:Nat):C2.KT:=C5 (C2.kS rK) n
def C2.k0 (rK:Av.T) (tK:C2.KT) (k:Int) (k0:PS):R1 Int PS:=
 (LY.k).bind fun y2=>
 ci (k=I y2.1.1.length) ((Dj.kr rK k0).bind MB)<|
 ck (BD (k+1))<|
 (C2.kr rK (k+1) k0).bind fun y4=>
 tK.1 k y4.1.1 y4.2.1
def C2.kf (rK:Av.T) (k:Int) (k0:PS):R1 Int PS:=C2.k0 rK (C2.kL rK 1000000) k k0
abbrev P0.T:Type:=Int->(List (List UInt8))->Int->Int->PS->R1 Int PS
abbrev Dj.KT:Type:=P0.T×Unit
def P0.kB (rK:Av.T) (tK:Dj.KT):P0.T:=fun t3 t13 t14 t15 k0=>
 let A1:=List.getD t13 t15.toNat []
 ci (t15<t14) (ck (0<=t15/\t15<I t13.length)<|
 ck (t15.toNat<t13.length)<|
 (Ex.k A1 k0).bind fun y3=>
 ci y3.1.1 ((Fb.k 3 t3).bind fun y5=>
 ci (I A1.length=2) ((CO.kr rK y3.2.1).bind fun y7=>
 (EJ.k (Dop.AZ.mk 12 y7.1.1 y5.1.1.b y5.1.1.c y5.1.1.d A1 y5.1.1.n y5.1.1.CC y5.1.1.at_) y7.2.1).bind MB)<|
 (CO.kr rK y3.2.1).bind fun y7=>
 (EJ.k (Dop.AZ.mk y5.1.1.kind y7.1.1 y5.1.1.b y5.1.1.c y5.1.1.d A1 y5.1.1.n y5.1.1.CC y5.1.1.at_) y7.2.1).bind MB)<|
 ck (BD (t15+1))<|
 tK.1 t3 t13 t14 (t15+1) y3.2.1)<|
 (Ex.k ([115,105,122,101,111,102]:List UInt8) k0).bind fun y3=>
 ci y3.1.1 ((Fb.k 11 t3).bind fun y5=>
 (GC.k ([40]:List UInt8) y3.2.1).bind fun y6=>
 (DN.k y6.2.1).bind fun y7=>
 (TL.k y7.1.1 y7.2.1).bind fun y8=>
 (GC.k ([41]:List UInt8) y8.2.1).bind fun y9=>
 (EJ.k (Dop.AZ.mk y5.1.1.kind y5.1.1.a y5.1.1.b y5.1.1.c y5.1.1.d y5.1.1.text y5.1.1.n y8.1.1 y5.1.1.at_) y9.2.1).bind MB)<|
 (NR.k ([40]:List UInt8) y3.2.1).bind fun y5=>
 ci y5.1.1 (ck (BD (PS.at_ y5.2.1+1))<|
 ci (PS.at_ y5.2.1+1<I (PS.l y5.2.1).length) (ck (BD (PS.at_ y5.2.1+1))<|
 (Hj.k (PS.l y5.2.1) (PS.at_ y5.2.1+1) (PS.top y5.2.1) (PS.deep y5.2.1) (PS.e y5.2.1) (PS.when y5.2.1)).bind fun y8=>
 ci y8.1.1 ((Fb.k 10 t3).bind fun y10=>
 (GC.k ([40]:List UInt8) y5.2.1).bind fun y11=>
 (DN.k y11.2.1).bind fun y12=>
 (GC.k ([41]:List UInt8) y12.2.1).bind fun y13=>
 (CO.kr rK y13.2.1).bind fun y14=>
 (EJ.k (Dop.AZ.mk y10.1.1.kind y14.1.1 y10.1.1.b y10.1.1.c y10.1.1.d y10.1.1.text y10.1.1.n y12.1.1 y10.1.1.at_) y14.2.1).bind MB)<|
 (Jw.kr rK y5.2.1).bind fun y10=>
 (Dk.kr rK y10.1.1 y10.2.1).bind MB)<|
 (Jw.kr rK y5.2.1).bind fun y8=>
 (Dk.kr rK y8.1.1 y8.2.1).bind MB)<|
 (Jw.kr rK y5.2.1).bind fun y7=>
 (Dk.kr rK y7.1.1 y7.2.1).bind MB
def Dj.kS (rK:Av.T) (tK:Dj.KT):Dj.KT:=(P0.kB rK tK,())
def Dj.kL (rK:Av.T) (n:Nat):Dj.KT:=C5 (Dj.kS rK) n
def Dj.k0 (rK:Av.T) (tK:Dj.KT) (k0:PS):R1 Int PS:=
 (Ei.k k0).bind fun y2=>
 ck (cI ([43,43,32,45,45,32,45,32,33,32,126,32,42,32,38]:List UInt8) && ((Lib.fields ([43,43,32,45,45,32,45,32,33,32,126,32,42,32,38]:List UInt8)).length<=maxLen))<|
 tK.1 y2.1.1.at_ (List.map (fun (a:List UInt8)=>a) (Lib.fields ([43,43,32,45,45,32,45,32,33,32,126,32,42,32,38]:List UInt8))) (I (List.map (fun (a:List UInt8)=>a) (Lib.fields ([43,43,32,45,45,32,45,32,33,32,126,32,42,32,38]:List UInt8))).length) 0 y2.2.1
def Dj.kf (rK:Av.T) (k0:PS):R1 Int PS:=Dj.k0 rK (Dj.kL rK 1000000) k0
def Jw.kf (rK:Av.T) (k0:PS):R1 Int PS:=
 (Ei.k k0).bind fun y2=>
 (Fb.k 1 y2.1.1.at_).bind fun y3=>
 ci (y2.1.1.kind=3) (ck (BD (PS.at_ y2.2.1+1))<|
 (EJ.k (Dop.AZ.mk y3.1.1.kind y3.1.1.a y3.1.1.b y3.1.1.c y3.1.1.d y3.1.1.text y2.1.1.n y3.1.1.CC y3.1.1.at_) ((PS.Uy y2.2.1 (PS.at_ y2.2.1+1)))).bind MB)<|
 ci (y2.1.1.kind=1) (ck (BD (PS.at_ y2.2.1+1))<|
 (Ex.k ([40]:List UInt8) ((PS.Uy y2.2.1 (PS.at_ y2.2.1+1)))).bind fun y6=>
 ci y6.1.1 ((D9.kr rK y6.2.1).bind fun y8=>
 (EJ.k (Dop.AZ.mk 9 y8.1.1 y3.1.1.b y3.1.1.c y3.1.1.d y2.1.1.text y3.1.1.n y3.1.1.CC y3.1.1.at_) y8.2.1).bind MB)<|
 (EJ.k (Dop.AZ.mk 2 y3.1.1.a y3.1.1.b y3.1.1.c y3.1.1.d y2.1.1.text y3.1.1.n y3.1.1.CC y3.1.1.at_) y6.2.1).bind MB)<|
 (Ex.k ([40]:List UInt8) y2.2.1).bind fun y6=>
 ci y6.1.1 ((Dv.kr rK y6.2.1).bind fun y8=>
 (GC.k ([41]:List UInt8) y8.2.1).bind fun y9=>
 Cn y8.1.1 y9.2.1)<|
 (Ex.k ([103,101,116,99]:List UInt8) y6.2.1).bind fun y8=>
 ci y8.1.1 ((GC.k ([40]:List UInt8) y8.2.1).bind fun y10=>
 (GC.k ([41]:List UInt8) y10.2.1).bind fun y11=>
 (EJ.k (Dop.AZ.mk 14 y3.1.1.a y3.1.1.b y3.1.1.c y3.1.1.d y3.1.1.text y3.1.1.n y3.1.1.CC y3.1.1.at_) y11.2.1).bind MB)<|
 (GC.k ([112,117,116,99]:List UInt8) y8.2.1).bind fun y10=>
 (GC.k ([40]:List UInt8) y10.2.1).bind fun y11=>
 (Dv.kr rK y11.2.1).bind fun y12=>
 (GC.k ([41]:List UInt8) y12.2.1).bind fun y13=>
 (EJ.k (Dop.AZ.mk 15 y12.1.1 y3.1.1.b y3.1.1.c y3.1.1.d y3.1.1.text y3.1.1.n y3.1.1.CC y3.1.1.at_) y13.2.1).bind MB
abbrev P2.T:Type:=List Int->PS->R1 Int PS
abbrev D9.KT:Type:=P2.T×Unit
def P2.kB (rK:Av.T) (tK:D9.KT):P2.T:=fun l k0=>
 let F1:Y1 Int PS->R1 Int PS:=fun y6=>
 ck (DK none (room 8 (l.length+(y6.1.1::[]).length)))<|
 tK.1 (l++y6.1.1::[]) y6.2.1
 (Ex.k ([41]:List UInt8) k0).bind fun y2=>
 ci (!y2.1.1) (ci (PS.e y2.2.1=0) (ci (0<I l.length) ((GC.k ([44]:List UInt8) y2.2.1).bind fun y6=>
 (Dv.kr rK y6.2.1).bind F1)<|
 (Dv.kr rK y2.2.1).bind F1)<|
 (Bt.k l y2.2.1).bind MB)<|
 (Bt.k l y2.2.1).bind MB
def D9.kS (rK:Av.T) (tK:D9.KT):D9.KT:=(P2.kB rK tK,())
def D9.kL (rK:Av.T) (n:Nat):D9.KT:=C5 (D9.kS rK) n
def D9.k0 (rK:Av.T) (tK:D9.KT) (k0:PS):R1 Int PS:=
 tK.1 [] k0
def D9.kf (rK:Av.T) (k0:PS):R1 Int PS:=D9.k0 rK (D9.kL rK 1000000) k0
abbrev P1.T:Type:=Int->PS->R1 Int PS
abbrev Dk.KT:Type:=P1.T×Unit
def P1.kB (rK:Av.T) (tK:Dk.KT):P1.T:=fun t1 k0=>
 ci (k0.e=0) ((Ei.k k0).bind fun y3=>
 (Fb.k 7 y3.1.1.at_).bind fun y4=>
 (Ex.k ([91]:List UInt8) y3.2.1).bind fun y5=>
 ci y5.1.1 ((Dv.kr rK y5.2.1).bind fun y7=>
 (GC.k ([93]:List UInt8) y7.2.1).bind fun y8=>
 (EJ.k (Dop.AZ.mk y4.1.1.kind t1 y7.1.1 y4.1.1.c y4.1.1.d y4.1.1.text y4.1.1.n y4.1.1.CC y4.1.1.at_) y8.2.1).bind fun y9=>
 tK.1 y9.1.1 y9.2.1)<|
 (Ex.k ([46]:List UInt8) y5.2.1).bind fun y7=>
 ci y7.1.1 (ci y7.1.1 (ck (BD (PS.at_ y7.2.1 -1))<|
 ck (0<=PS.at_ y7.2.1 -1/\PS.at_ y7.2.1 -1<I (PS.l y7.2.1).length)<|
 ci ((List.getD (PS.l y7.2.1) (PS.at_ y7.2.1 -1).toNat Dop.d4).text=(45:UInt8)::(62:UInt8)::[]) ((MA.k 1 y7.2.1).bind fun y11=>
 (EJ.k (Dop.AZ.mk 8 t1 y4.1.1.b y4.1.1.c y4.1.1.d y11.1.1.text 1 y4.1.1.CC y4.1.1.at_) y11.2.1).bind fun y12=>
 tK.1 y12.1.1 y12.2.1)<|
 (MA.k 1 y7.2.1).bind fun y11=>
 (EJ.k (Dop.AZ.mk 8 t1 y4.1.1.b y4.1.1.c y4.1.1.d y11.1.1.text y4.1.1.n y4.1.1.CC y4.1.1.at_) y11.2.1).bind fun y12=>
 tK.1 y12.1.1 y12.2.1)<|
 (Ex.k ([43,43]:List UInt8) y7.2.1).bind fun y10=>
 ci y10.1.1 (ci y10.1.1 (ck (BD (PS.at_ y10.2.1 -1))<|
 ck (0<=PS.at_ y10.2.1 -1/\PS.at_ y10.2.1 -1<I (PS.l y10.2.1).length)<|
 (EJ.k (Dop.AZ.mk 13 t1 y4.1.1.b y4.1.1.c y4.1.1.d (List.getD (PS.l y10.2.1) (PS.at_ y10.2.1 -1).toNat Dop.d4).text y4.1.1.n y4.1.1.CC y4.1.1.at_) y10.2.1).bind fun y13=>
 tK.1 y13.1.1 y13.2.1)<|
 Cn t1 y10.2.1)<|
 (Ex.k ([45,45]:List UInt8) y10.2.1).bind fun y12=>
 ci y12.1.1 (ck (BD (PS.at_ y12.2.1 -1))<|
 ck (0<=PS.at_ y12.2.1 -1/\PS.at_ y12.2.1 -1<I (PS.l y12.2.1).length)<|
 (EJ.k (Dop.AZ.mk 13 t1 y4.1.1.b y4.1.1.c y4.1.1.d (List.getD (PS.l y12.2.1) (PS.at_ y12.2.1 -1).toNat Dop.d4).text y4.1.1.n y4.1.1.CC y4.1.1.at_) y12.2.1).bind fun y14=>
 tK.1 y14.1.1 y14.2.1)<|
 Cn t1 y12.2.1)<|
 (Ex.k ([45,62]:List UInt8) y7.2.1).bind fun y9=>
 ci y9.1.1 (ck (BD (PS.at_ y9.2.1 -1))<|
 ck (0<=PS.at_ y9.2.1 -1/\PS.at_ y9.2.1 -1<I (PS.l y9.2.1).length)<|
 ci ((List.getD (PS.l y9.2.1) (PS.at_ y9.2.1 -1).toNat Dop.d4).text=(45:UInt8)::(62:UInt8)::[]) ((MA.k 1 y9.2.1).bind fun y12=>
 (EJ.k (Dop.AZ.mk 8 t1 y4.1.1.b y4.1.1.c y4.1.1.d y12.1.1.text 1 y4.1.1.CC y4.1.1.at_) y12.2.1).bind fun y13=>
 tK.1 y13.1.1 y13.2.1)<|
 (MA.k 1 y9.2.1).bind fun y12=>
 (EJ.k (Dop.AZ.mk 8 t1 y4.1.1.b y4.1.1.c y4.1.1.d y12.1.1.text y4.1.1.n y4.1.1.CC y4.1.1.at_) y12.2.1).bind fun y13=>
 tK.1 y13.1.1 y13.2.1)<|
 (Ex.k ([43,43]:List UInt8) y9.2.1).bind fun y11=>
 ci y11.1.1 (ci y11.1.1 (ck (BD (PS.at_ y11.2.1 -1))<|
 ck (0<=PS.at_ y11.2.1 -1/\PS.at_ y11.2.1 -1<I (PS.l y11.2.1).length)<|
 (EJ.k (Dop.AZ.mk 13 t1 y4.1.1.b y4.1.1.c y4.1.1.d (List.getD (PS.l y11.2.1) (PS.at_ y11.2.1 -1).toNat Dop.d4).text y4.1.1.n y4.1.1.CC y4.1.1.at_) y11.2.1).bind fun y14=>
 tK.1 y14.1.1 y14.2.1)<|
 Cn t1 y11.2.1)<|
 (Ex.k ([45,45]:List UInt8) y11.2.1).bind fun y13=>
 ci y13.1.1 (ck (BD (PS.at_ y13.2.1 -1))<|
 ck (0<=PS.at_ y13.2.1 -1/\PS.at_ y13.2.1 -1<I (PS.l y13.2.1).length)<|
 (EJ.k (Dop.AZ.mk 13 t1 y4.1.1.b y4.1.1.c y4.1.1.d (List.getD (PS.l y13.2.1) (PS.at_ y13.2.1 -1).toNat Dop.d4).text y4.1.1.n y4.1.1.CC y4.1.1.at_) y13.2.1).bind fun y15=>
 tK.1 y15.1.1 y15.2.1)<|
 Cn t1 y13.2.1)<|
 Cn (-1) k0
def Dk.kS (rK:Av.T) (tK:Dk.KT):Dk.KT:=(P1.kB rK tK,())
def Dk.kL (rK:Av.T) (n:Nat):Dk.KT:=C5 (Dk.kS rK) n
def Dk.k0 (rK:Av.T) (tK:Dk.KT) (t1:Int) (k0:PS):R1 Int PS:=
 tK.1 t1 k0
def Dk.kf (rK:Av.T) (t1:Int) (k0:PS):R1 Int PS:=Dk.k0 rK (Dk.kL rK 1000000) t1 k0
def Av.kS (r:Av.T):Av.T:=(fun x=>Dv.kf r x.2.1,fun x=>within r.2.2.1 x.2.1,fun x=>D7.kf r x.2.1,fun x=>Jv.kf r x.2.1,fun x=>C2.kf r x.1.2.1 x.2.1,fun x=>Dj.kf r x.2.1,fun x=>within r.2.2.2.2.2.1 x.2.1,fun x=>Jw.kf r x.2.1,fun x=>D9.kf r x.2.1,fun x=>Dk.kf r x.1.2.1 x.2.1,fun x=>within r.2.2.2.1 x.2.1,())
def Av.kR (n:Nat):Av.T:=C5 Av.kS n
def Dv.Kc (n:Nat):=kd 158 Dv.p (Av.kR n).1
def Dv.LO:=Dv.Kc FU
def Dv.k:=Dv.kr (Av.kR FU)
def C8.Kc (n:Nat):=kd 127 C8.p (Av.kR n).2.1
abbrev D7.kq (n:Nat):((Unit×Unit)×(PS×Unit))->Option ((Int×Unit)×(PS×Unit)):=(Av.kR n).2.2.1
def D7.Kc (n:Nat):=kd 184 D7.p (Av.kR n).2.2.1
abbrev Jv.kq (n:Nat):((Unit×Unit)×(PS×Unit))->Option ((Int×Unit)×(PS×Unit)):=(Av.kR n).2.2.2.1
def Jv.Kc (n:Nat):=kd 192 Jv.p (Av.kR n).2.2.2.1
def C2.Kc (n:Nat):=kd 193 C2.p (Av.kR n).2.2.2.2.1
abbrev Dj.kq (n:Nat):((Unit×Unit)×(PS×Unit))->Option ((Int×Unit)×(PS×Unit)):=(Av.kR n).2.2.2.2.2.1
def Dj.Kc (n:Nat):=kd 195 Dj.p (Av.kR n).2.2.2.2.2.1
def CO.Kc (n:Nat):=kd 127 CO.p (Av.kR n).2.2.2.2.2.2.1
def Jw.Kc (n:Nat):=kd 197 Jw.p (Av.kR n).2.2.2.2.2.2.2.1
def D9.Kc (n:Nat):=kd 198 D9.p (Av.kR n).2.2.2.2.2.2.2.2.1
def Dk.Kc (n:Nat):=kd 196 Dk.p (Av.kR n).2.2.2.2.2.2.2.2.2.1
def C9.Kc (n:Nat):=kd 127 C9.p (Av.kR n).2.2.2.2.2.2.2.2.2.2.1
def Av.SK (n:Nat):List (By Dop.D4):=[Dv.Kc n,C8.Kc n,D7.Kc n,Jv.Kc n,C2.Kc n,Dj.Kc n,CO.Kc n,Jw.Kc n,D9.Kc n,Dk.Kc n,C9.Kc n]
theorem Av.E5: ∀ n,(Dv.Kc n).Holds prog/\(C8.Kc n).Holds prog/\(D7.Kc n).Holds prog/\(Jv.Kc n).Holds prog/\(C2.Kc n).Holds prog/\(Dj.Kc n).Holds prog/\(CO.Kc n).Holds prog/\(Jw.Kc n).Holds prog/\(D9.Kc n).Holds prog/\(Dk.Kc n).Holds prog/\(C9.Kc n).Holds prog/\True
 | 0=>⟨AO AH Dv.ok,AO AH (by kernel_rfl),AO AH D7.ok,AO AH Jv.ok,AO AH C2.ok,AO AH Dj.ok,AO AH (by kernel_rfl),AO AH Jw.ok,AO AH D9.ok,AO AH Dk.ok,AO AH (by kernel_rfl),trivial⟩
 | n+1=>by
  obtain ⟨h0,h1,h2,h3,h4,h5,h6,h7,h8,h9,h10,_⟩:=Av.E5 n
  have hh: ∀ c∈Av.SK n,c.Holds prog:=(hc h0 (hc h1 (hc h2 (hc h3 (hc h4 (hc h5 (hc h6 (hc h7 (hc h8 (hc h9 (hc h10 hn)))))))))))
  exact ⟨kh AH (Ad hh hn) Dv.ok (by kernel_rfl),
   (mi.holds (m:=D7.kq n) h2),
   GB AH (Ad hh (hc fields.holds (hc Ei.Kh (hc Ex.Kh (hc Fb.Kh (hc EJ.Kh hn)))))) D7.ok (fun t x=>D7.k0 (Av.kR n) t x.2.1) (fun c=>(fun a t10 t11 t12 k0=>c 3 D7.q3 rfl (((),a,t10,t11,t12,()),(k0,())),())) (D7.kS (Av.kR n)) (by kernel_rfl),
   kh AH (Ad hh (hc Ei.Kh (hc Ex.Kh (hc Fb.Kh (hc GC.Kh (hc EJ.Kh hn)))))) Jv.ok (by kernel_rfl),
   GB AH (Ad hh (hc LY.Kh (hc fields.holds (hc Ei.Kh (hc Ex.Kh (hc Fb.Kh (hc EJ.Kh hn))))))) C2.ok (fun t x=>C2.k0 (Av.kR n) t x.1.2.1 x.2.1) (fun c=>(fun k a k0=>c 4 C2.q4 rfl (((),k,a,()),(k0,())),fun k a t24 t25 t26 k0=>c 5 C2.q5 rfl (((),k,a,t24,t25,t26,()),(k0,())),())) (C2.kS (Av.kR n)) (by kernel_rfl),
   GB AH (Ad hh (hc Ei.Kh (hc fields.holds (hc Ex.Kh (hc Fb.Kh (hc EJ.Kh (hc GC.Kh (hc DN.Kh (hc TL.Kh (hc NR.Kh (hc Hj.Kh hn))))))))))) Dj.ok (fun t x=>Dj.k0 (Av.kR n) t x.2.1) (fun c=>(fun t3 t13 t14 t15 k0=>c 3 Dj.q3 rfl (((),t3,t13,t14,t15,()),(k0,())),())) (Dj.kS (Av.kR n)) (by kernel_rfl),
   (ml.holds (m:=Dj.kq n) h5),
   kh AH (Ad hh (hc Ei.Kh (hc Fb.Kh (hc Ex.Kh (hc GC.Kh (hc EJ.Kh hn)))))) Jw.ok (by kernel_rfl),
   GB AH (Ad hh (hc Ex.Kh (hc GC.Kh (hc Bt.Kh hn)))) D9.ok (fun t x=>D9.k0 (Av.kR n) t x.2.1) (fun c=>(fun l k0=>c 2 D9.q2 rfl (((),l,()),(k0,())),())) (D9.kS (Av.kR n)) (by kernel_rfl),
   GB AH (Ad hh (hc Ei.Kh (hc Fb.Kh (hc Ex.Kh (hc GC.Kh (hc MA.Kh (hc EJ.Kh hn))))))) Dk.ok (fun t x=>Dk.k0 (Av.kR n) t x.1.2.1 x.2.1) (fun c=>(fun t1 k0=>c 1 Dk.q1 rfl (((),t1,()),(k0,())),())) (Dk.kS (Av.kR n)) (by kernel_rfl),
   (mj.holds (m:=Jv.kq n) h3),
   trivial⟩
theorem Dv.Ie:Dv.LO.Holds prog:=(Av.E5 FU).1
end
end Go.Proofs.Tryz
