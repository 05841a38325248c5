/- parser.list in plain words. -/
import Derived.Test.YtkpggdcpaeanaaaGreatDoorMq
import Derived.Test.YtkpggdcpaeanaaaGreatDoorMj
set_option linter.all false
set_option maxRecDepth 100000
namespace Go.Proofs.Tryz
open Go Go.En
noncomputable section
def Bq.cY {R:Type} (x:Int) (p:PS) (out:Int) (f:Int->PS->Option R):Option R:=(HH.k x p).bind fun y=>(Fc.k 20 y.1.1).bind fun z=>(Cy.k (Dop.AR.mk z.1.1.kind x out z.1.1.c z.1.1.d z.1.1.text z.1.1.n z.1.1.AZ z.1.1.at_) y.2.1).bind fun v=>f v.1.1 v.2.1
def Bq.cX:List Int->PS->Int->Option ((Int×Unit)×(PS×Unit))
 | [],p,out=>some ((out,()),(p,()))
 | x::r,p,out=>Bq.cY x p out fun o q=>Bq.cX r q o
def Bq.k (l:List Int) (p:PS):Option ((Int×Unit)×(PS×Unit)):=match decide (l.length<9223372036854775807) with
 | true=>Bq.cX l.reverse p (-1)
 | false=>none
theorem Bq.Wk (x:Int) (p:PS) (out:Int):Bq.step x ((),(p,((),()),(out,()),()))=Bq.cY x p out fun o q=>some ((),(q,((),()),(o,()),())):=by kernel_rfl
theorem Bq.Mg: ∀ (l:List Int) (p:PS) (out:Int),((Bq.go l ((),(p,((),()),(out,()),()))).bind fun y=>some ((y.2.2.2.1.1,()),(y.2.1,())))=Bq.cX l p out
 | [],p,out=>rfl
 | x::r,p,out=>(congrArg (fun z=>(Option.bind z (Bq.go r)).bind fun y=>some ((y.2.2.2.1.1,()),(y.2.1,()))) (Bq.Wk x p out)).trans (by
  unfold Bq.cY
  simp only [Option.bind_assoc,Option.bind_some]
  exact congrArg _ (funext fun y=>congrArg _ (funext fun z=>congrArg _ (funext fun v=>Bq.Mg r v.2.1 v.1.1))))
theorem Bq.ao (x):Bq.R x=Bq.k x.1.2.1 x.2.1:=by
 unfold Bq.R Bq.k
 cases decide (x.1.2.1.length<9223372036854775807) with
 | true=>exact Bq.Mg _ _ _
 | false=>rfl
def Bq.Kc:CC Dop.D4:=⟨47,Bq.p.bn,Bq.p.sp,Bq.p.rs,Bq.p.flat,.opt fun x=>Bq.k x.1.2.1 x.2.1⟩
theorem Bq.Kh:Bq.Kc.Holds prog:=R7 Bq.holds (by unfold Bq.Kc Bq.c;rw [show Bq.R=fun x=>Bq.k x.1.2.1 x.2.1 from funext Bq.ao])
end
end Go.Proofs.Tryz
/- Functions in plain words (what their equations say), and their contracts. Written by a program. -/
set_option maxRecDepth 100000
set_option maxHeartbeats 4000000
namespace Go.Proofs.Tryz
open Go Go.En
noncomputable section
def LC.k :F8 (List (List UInt8)):=
 ED (([124,124]:List UInt8)::([38,38]:List UInt8)::([124]:List UInt8)::([94]:List UInt8)::([38]:List UInt8)::([61,61,32,33,61]:List UInt8)::([60,32,60,61,32,62,32,62,61]:List UInt8)::([60,60,32,62,62]:List UInt8)::([43,32,45]:List UInt8)::([42,32,47,32,37]:List UInt8)::[])
def LC.Kc:=kd 262 LC.p fun x=>LC.k
theorem LC.Kh:LC.Kc.Holds prog:=kh AH hn LC.ok (by kernel_rfl)
abbrev Dg.kr (r:As.T) (k0:PS):R1 Int PS:=r.1 (((),()),(k0,()))
abbrev DB.kr (r:As.T) (k0:PS):R1 Int PS:=r.2.1 (((),(),()),(k0,()))
abbrev Jh.kr (r:As.T) (k0:PS):R1 Int PS:=r.2.2.2.1 (((),()),(k0,()))
abbrev C4.kr (r:As.T) (k:Int) (k0:PS):R1 Int PS:=r.2.2.2.2.1 (((),k,()),(k0,()))
abbrev Dh.kr (r:As.T) (k0:PS):R1 Int PS:=r.2.2.2.2.2.1 (((),()),(k0,()))
abbrev CN.kr (r:As.T) (k0:PS):R1 Int PS:=r.2.2.2.2.2.2.1 (((),(),()),(k0,()))
abbrev Ji.kr (r:As.T) (k0:PS):R1 Int PS:=r.2.2.2.2.2.2.2.1 (((),()),(k0,()))
abbrev D8.kr (r:As.T) (k0:PS):R1 Int PS:=r.2.2.2.2.2.2.2.2.1 (((),()),(k0,()))
abbrev Di.kr (r:As.T) (t1:Int) (k0:PS):R1 Int PS:=r.2.2.2.2.2.2.2.2.2.1 (((),t1,()),(k0,()))
abbrev DC.kr (r:As.T) (k0:PS):R1 Int PS:=r.2.2.2.2.2.2.2.2.2.2.1 (((),(),()),(k0,()))
def Dg.kf (rK:As.T) (k0:PS):R1 Int PS:=
 (DB.kr rK k0).bind G3
abbrev PW.T:Type:=Int->(List (List UInt8))->Int->Int->PS->R1 Int PS
abbrev Dz.KT:Type:=PW.T×Unit
def PW.kB (rK:As.T) (tK:Dz.KT):PW.T:=fun a t10 t11 t12 k0=>
 let A1:=List.getD t10 t12.toNat []
 ci (t12<t11) (ck (0<=t12/\t12<I t10.length)<|
 ck (t12.toNat<t10.length)<|
 (Eo.k k0).bind fun y3=>
 (Cx.k A1 y3.2.1).bind fun y4=>
 ci y4.1.1 ((Fc.k 5 y3.1.1.at_).bind fun y6=>
 (Dg.kr rK y4.2.1).bind fun y7=>
 (Cy.k (Dop.AR.mk y6.1.1.kind a y7.1.1 y6.1.1.c y6.1.1.d A1 y6.1.1.n y6.1.1.AZ y6.1.1.at_) y7.2.1).bind G3)<|
 ck (Ap (t12+1))<|
 tK.1 a t10 t11 (t12+1) y4.2.1)<|
 CS a k0
def Dz.kS (rK:As.T) (tK:Dz.KT):Dz.KT:=(PW.kB rK tK,())
def Dz.kL (rK:As.T) (n:Nat):Dz.KT:=Cv (Dz.kS rK) n
def Dz.k0 (rK:As.T) (tK:Dz.KT) (k0:PS):R1 Int PS:=
 (Jh.kr rK k0).bind fun y2=>
 ck (aO ([61,32,43,61,32,45,61,32,42,61,32,47,61,32,37,61,32,38,61,32,124,61,32,94,61,32,60,60,61,32,62,62,61]:List UInt8) && ((Lib.fields ([61,32,43,61,32,45,61,32,42,61,32,47,61,32,37,61,32,38,61,32,124,61,32,94,61,32,60,60,61,32,62,62,61]:List UInt8)).length<=maxLen))<|
 tK.1 y2.1.1 (List.map (fun (a:List UInt8)=>a) (Lib.fields ([61,32,43,61,32,45,61,32,42,61,32,47,61,32,37,61,32,38,61,32,124,61,32,94,61,32,60,60,61,32,62,62,61]:List UInt8))) (I (List.map (fun (a:List UInt8)=>a) (Lib.fields ([61,32,43,61,32,45,61,32,42,61,32,47,61,32,37,61,32,38,61,32,124,61,32,94,61,32,60,60,61,32,62,62,61]:List UInt8))).length) 0 y2.2.1
def Dz.kf (rK:As.T) (k0:PS):R1 Int PS:=Dz.k0 rK (Dz.kL rK 1000000) k0
def Jh.kf (rK:As.T) (k0:PS):R1 Int PS:=
 (C4.kr rK 0 k0).bind fun y2=>
 (Eo.k y2.2.1).bind fun y3=>
 (Cx.k ([63]:List UInt8) y3.2.1).bind fun y4=>
 ci (!y4.1.1) (CS y2.1.1 y4.2.1)<|
 (Fc.k 6 y3.1.1.at_).bind fun y6=>
 (Dg.kr rK y4.2.1).bind fun y7=>
 (DN.k ([58]:List UInt8) y7.2.1).bind fun y8=>
 (DC.kr rK y8.2.1).bind fun y9=>
 (Cy.k (Dop.AR.mk y6.1.1.kind y2.1.1 y7.1.1 y9.1.1 y6.1.1.d y6.1.1.text y6.1.1.n y6.1.1.AZ y6.1.1.at_) y9.2.1).bind G3
abbrev PZ.T:Type:=Int->Int->PS->R1 Int PS
abbrev Pa.T:Type:=Int->Int->(List (List UInt8))->Int->Int->PS->R1 Int PS
abbrev C4.KT:Type:=PZ.T×Pa.T×Unit
def PZ.kB (rK:As.T) (tK:C4.KT):PZ.T:=fun k a k0=>
 (LC.k).bind fun y2=>
 ck (0<=k/\k<I y2.1.1.length)<|
 ck (k.toNat<y2.1.1.length)<|
 ck (aO (List.getD y2.1.1 k.toNat []) && ((Lib.fields (List.getD y2.1.1 k.toNat [])).length<=maxLen))<|
 tK.2.1 k a (List.map (fun (a:List UInt8)=>a) (Lib.fields (List.getD y2.1.1 k.toNat []))) (I (List.map (fun (a:List UInt8)=>a) (Lib.fields (List.getD y2.1.1 k.toNat []))).length) 0 k0
def Pa.kB (rK:As.T) (tK:C4.KT):Pa.T:=fun k a t24 t25 t26 k0=>
 let A1:=List.getD t24 t26.toNat []
 ci (t26<t25) (ck (0<=t26/\t26<I t24.length)<|
 ck (t26.toNat<t24.length)<|
 (Eo.k k0).bind fun y3=>
 (Cx.k A1 y3.2.1).bind fun y4=>
 ci y4.1.1 ((Fc.k 4 y3.1.1.at_).bind fun y6=>
 ck (Ap (k+1))<|
 (C4.kr rK (k+1) y4.2.1).bind fun y7=>
 (Cy.k (Dop.AR.mk y6.1.1.kind a y7.1.1 y6.1.1.c y6.1.1.d A1 y6.1.1.n y6.1.1.AZ y6.1.1.at_) y7.2.1).bind fun y8=>
 tK.1 k y8.1.1 y8.2.1)<|
 ck (Ap (t26+1))<|
 tK.2.1 k a t24 t25 (t26+1) y4.2.1)<|
 CS a k0
def C4.kS (rK:As.T) (tK:C4.KT):C4.KT:=(PZ.kB rK tK,Pa.kB rK tK,())
def C4.kL (rK:As.T) (n:Nat):C4.KT:=Cv (C4.kS rK) n
def C4.k0 (rK:As.T) (tK:C4.KT) (k:Int) (k0:PS):R1 Int PS:=
 (LC.k).bind fun y2=>
 ci (k=I y2.1.1.length) ((Dh.kr rK k0).bind G3)<|
 ck (Ap (k+1))<|
 (C4.kr rK (k+1) k0).bind fun y4=>
 tK.1 k y4.1.1 y4.2.1
def C4.kf (rK:As.T) (k:Int) (k0:PS):R1 Int PS:=C4.k0 rK (C4.kL rK 1000000) k k0
abbrev Pb.T:Type:=Int->(List (List UInt8))->Int->Int->PS->R1 Int PS
abbrev Dh.KT:Type:=Pb.T×Unit
def Pb.kB (rK:As.T) (tK:Dh.KT):Pb.T:=fun t3 t13 t14 t15 k0=>
 let A1:=List.getD t13 t15.toNat []
 ci (t15<t14) (ck (0<=t15/\t15<I t13.length)<|
 ck (t15.toNat<t13.length)<|
 (Cx.k A1 k0).bind fun y3=>
 ci y3.1.1 ((Fc.k 3 t3).bind fun y5=>
 ci (I A1.length=2) ((CN.kr rK y3.2.1).bind fun y7=>
 (Cy.k (Dop.AR.mk 12 y7.1.1 y5.1.1.b y5.1.1.c y5.1.1.d A1 y5.1.1.n y5.1.1.AZ y5.1.1.at_) y7.2.1).bind G3)<|
 (CN.kr rK y3.2.1).bind fun y7=>
 (Cy.k (Dop.AR.mk y5.1.1.kind y7.1.1 y5.1.1.b y5.1.1.c y5.1.1.d A1 y5.1.1.n y5.1.1.AZ y5.1.1.at_) y7.2.1).bind G3)<|
 ck (Ap (t15+1))<|
 tK.1 t3 t13 t14 (t15+1) y3.2.1)<|
 (Cx.k ([115,105,122,101,111,102]:List UInt8) k0).bind fun y3=>
 ci y3.1.1 ((Fc.k 11 t3).bind fun y5=>
 (DN.k ([40]:List UInt8) y3.2.1).bind fun y6=>
 (DM.k y6.2.1).bind fun y7=>
 (Pn.k y7.1.1 y7.2.1).bind fun y8=>
 (DN.k ([41]:List UInt8) y8.2.1).bind fun y9=>
 (Cy.k (Dop.AR.mk y5.1.1.kind y5.1.1.a y5.1.1.b y5.1.1.c y5.1.1.d y5.1.1.text y5.1.1.n y8.1.1 y5.1.1.at_) y9.2.1).bind G3)<|
 (Mz.k ([40]:List UInt8) y3.2.1).bind fun y5=>
 ci y5.1.1 (ck (Ap (PS.at_ y5.2.1+1))<|
 ci (PS.at_ y5.2.1+1<I (PS.l y5.2.1).length) (ck (Ap (PS.at_ y5.2.1+1))<|
 (He.k (PS.l y5.2.1) (PS.at_ y5.2.1+1) (PS.top y5.2.1) (PS.deep y5.2.1) (PS.e y5.2.1) (PS.when y5.2.1)).bind fun y8=>
 ci y8.1.1 ((Fc.k 10 t3).bind fun y10=>
 (DN.k ([40]:List UInt8) y5.2.1).bind fun y11=>
 (DM.k y11.2.1).bind fun y12=>
 (DN.k ([41]:List UInt8) y12.2.1).bind fun y13=>
 (CN.kr rK y13.2.1).bind fun y14=>
 (Cy.k (Dop.AR.mk y10.1.1.kind y14.1.1 y10.1.1.b y10.1.1.c y10.1.1.d y10.1.1.text y10.1.1.n y12.1.1 y10.1.1.at_) y14.2.1).bind G3)<|
 (Ji.kr rK y5.2.1).bind fun y10=>
 (Di.kr rK y10.1.1 y10.2.1).bind G3)<|
 (Ji.kr rK y5.2.1).bind fun y8=>
 (Di.kr rK y8.1.1 y8.2.1).bind G3)<|
 (Ji.kr rK y5.2.1).bind fun y7=>
 (Di.kr rK y7.1.1 y7.2.1).bind G3
def Dh.kS (rK:As.T) (tK:Dh.KT):Dh.KT:=(Pb.kB rK tK,())
def Dh.kL (rK:As.T) (n:Nat):Dh.KT:=Cv (Dh.kS rK) n
def Dh.k0 (rK:As.T) (tK:Dh.KT) (k0:PS):R1 Int PS:=
 (Eo.k k0).bind fun y2=>
 ck (aO ([43,43,32,45,45,32,45,32,33,32,126,32,42,32,38]:List UInt8) && ((Lib.fields ([43,43,32,45,45,32,45,32,33,32,126,32,42,32,38]:List UInt8)).length<=maxLen))<|
 tK.1 y2.1.1.at_ (List.map (fun (a:List UInt8)=>a) (Lib.fields ([43,43,32,45,45,32,45,32,33,32,126,32,42,32,38]:List UInt8))) (I (List.map (fun (a:List UInt8)=>a) (Lib.fields ([43,43,32,45,45,32,45,32,33,32,126,32,42,32,38]:List UInt8))).length) 0 y2.2.1
def Dh.kf (rK:As.T) (k0:PS):R1 Int PS:=Dh.k0 rK (Dh.kL rK 1000000) k0
def Ji.kf (rK:As.T) (k0:PS):R1 Int PS:=
 (Eo.k k0).bind fun y2=>
 (Fc.k 1 y2.1.1.at_).bind fun y3=>
 ci (y2.1.1.kind=3) (ck (Ap (PS.at_ y2.2.1+1))<|
 (Cy.k (Dop.AR.mk y3.1.1.kind y3.1.1.a y3.1.1.b y3.1.1.c y3.1.1.d y3.1.1.text y2.1.1.n y3.1.1.AZ y3.1.1.at_) ((PS.UG y2.2.1 (PS.at_ y2.2.1+1)))).bind G3)<|
 ci (y2.1.1.kind=1) (ck (Ap (PS.at_ y2.2.1+1))<|
 (Cx.k ([40]:List UInt8) ((PS.UG y2.2.1 (PS.at_ y2.2.1+1)))).bind fun y6=>
 ci y6.1.1 ((D8.kr rK y6.2.1).bind fun y8=>
 (Cy.k (Dop.AR.mk 9 y8.1.1 y3.1.1.b y3.1.1.c y3.1.1.d y2.1.1.text y3.1.1.n y3.1.1.AZ y3.1.1.at_) y8.2.1).bind G3)<|
 (Cy.k (Dop.AR.mk 2 y3.1.1.a y3.1.1.b y3.1.1.c y3.1.1.d y2.1.1.text y3.1.1.n y3.1.1.AZ y3.1.1.at_) y6.2.1).bind G3)<|
 (Cx.k ([40]:List UInt8) y2.2.1).bind fun y6=>
 ci y6.1.1 ((Dg.kr rK y6.2.1).bind fun y8=>
 (DN.k ([41]:List UInt8) y8.2.1).bind fun y9=>
 CS y8.1.1 y9.2.1)<|
 (Cx.k ([103,101,116,99]:List UInt8) y6.2.1).bind fun y8=>
 ci y8.1.1 ((DN.k ([40]:List UInt8) y8.2.1).bind fun y10=>
 (DN.k ([41]:List UInt8) y10.2.1).bind fun y11=>
 (Cy.k (Dop.AR.mk 14 y3.1.1.a y3.1.1.b y3.1.1.c y3.1.1.d y3.1.1.text y3.1.1.n y3.1.1.AZ y3.1.1.at_) y11.2.1).bind G3)<|
 (DN.k ([112,117,116,99]:List UInt8) y8.2.1).bind fun y10=>
 (DN.k ([40]:List UInt8) y10.2.1).bind fun y11=>
 (Dg.kr rK y11.2.1).bind fun y12=>
 (DN.k ([41]:List UInt8) y12.2.1).bind fun y13=>
 (Cy.k (Dop.AR.mk 15 y12.1.1 y3.1.1.b y3.1.1.c y3.1.1.d y3.1.1.text y3.1.1.n y3.1.1.AZ y3.1.1.at_) y13.2.1).bind G3
abbrev Pd.T:Type:=List Int->PS->R1 Int PS
abbrev D8.KT:Type:=Pd.T×Unit
def Pd.kB (rK:As.T) (tK:D8.KT):Pd.T:=fun l k0=>
 (Cx.k ([41]:List UInt8) k0).bind fun y2=>
 ci (!y2.1.1) (ci (PS.e y2.2.1=0) (ci (0<I l.length) ((DN.k ([44]:List UInt8) y2.2.1).bind fun y6=>
 (Dg.kr rK y6.2.1).bind fun y7=>
 ck (Cc none (room 8 (l.length+(y7.1.1::[]).length)))<|
 tK.1 (l++y7.1.1::[]) y7.2.1)<|
 (Dg.kr rK y2.2.1).bind fun y6=>
 ck (Cc none (room 8 (l.length+(y6.1.1::[]).length)))<|
 tK.1 (l++y6.1.1::[]) y6.2.1)<|
 (Bq.k l y2.2.1).bind G3)<|
 (Bq.k l y2.2.1).bind G3
def D8.kS (rK:As.T) (tK:D8.KT):D8.KT:=(Pd.kB rK tK,())
def D8.kL (rK:As.T) (n:Nat):D8.KT:=Cv (D8.kS rK) n
def D8.k0 (rK:As.T) (tK:D8.KT) (k0:PS):R1 Int PS:=
 tK.1 [] k0
def D8.kf (rK:As.T) (k0:PS):R1 Int PS:=D8.k0 rK (D8.kL rK 1000000) k0
abbrev Pc.T:Type:=Int->PS->R1 Int PS
abbrev Di.KT:Type:=Pc.T×Unit
def Pc.kB (rK:As.T) (tK:Di.KT):Pc.T:=fun t1 k0=>
 ci (k0.e=0) ((Eo.k k0).bind fun y3=>
 (Fc.k 7 y3.1.1.at_).bind fun y4=>
 (Cx.k ([91]:List UInt8) y3.2.1).bind fun y5=>
 ci y5.1.1 ((Dg.kr rK y5.2.1).bind fun y7=>
 (DN.k ([93]:List UInt8) y7.2.1).bind fun y8=>
 (Cy.k (Dop.AR.mk y4.1.1.kind t1 y7.1.1 y4.1.1.c y4.1.1.d y4.1.1.text y4.1.1.n y4.1.1.AZ y4.1.1.at_) y8.2.1).bind fun y9=>
 tK.1 y9.1.1 y9.2.1)<|
 (Cx.k ([46]:List UInt8) y5.2.1).bind fun y7=>
 ci y7.1.1 (ci y7.1.1 (ck (Ap (PS.at_ y7.2.1 -1))<|
 ck (0<=PS.at_ y7.2.1 -1/\PS.at_ y7.2.1 -1<I (PS.l y7.2.1).length)<|
 ci ((List.getD (PS.l y7.2.1) (PS.at_ y7.2.1 -1).toNat Dop.d4).text=(45:UInt8)::(62:UInt8)::[]) ((IJ.k 1 y7.2.1).bind fun y11=>
 (Cy.k (Dop.AR.mk 8 t1 y4.1.1.b y4.1.1.c y4.1.1.d y11.1.1.text 1 y4.1.1.AZ y4.1.1.at_) y11.2.1).bind fun y12=>
 tK.1 y12.1.1 y12.2.1)<|
 (IJ.k 1 y7.2.1).bind fun y11=>
 (Cy.k (Dop.AR.mk 8 t1 y4.1.1.b y4.1.1.c y4.1.1.d y11.1.1.text y4.1.1.n y4.1.1.AZ y4.1.1.at_) y11.2.1).bind fun y12=>
 tK.1 y12.1.1 y12.2.1)<|
 (Cx.k ([43,43]:List UInt8) y7.2.1).bind fun y10=>
 ci y10.1.1 (ci y10.1.1 (ck (Ap (PS.at_ y10.2.1 -1))<|
 ck (0<=PS.at_ y10.2.1 -1/\PS.at_ y10.2.1 -1<I (PS.l y10.2.1).length)<|
 (Cy.k (Dop.AR.mk 13 t1 y4.1.1.b y4.1.1.c y4.1.1.d (List.getD (PS.l y10.2.1) (PS.at_ y10.2.1 -1).toNat Dop.d4).text y4.1.1.n y4.1.1.AZ y4.1.1.at_) y10.2.1).bind fun y13=>
 tK.1 y13.1.1 y13.2.1)<|
 CS t1 y10.2.1)<|
 (Cx.k ([45,45]:List UInt8) y10.2.1).bind fun y12=>
 ci y12.1.1 (ck (Ap (PS.at_ y12.2.1 -1))<|
 ck (0<=PS.at_ y12.2.1 -1/\PS.at_ y12.2.1 -1<I (PS.l y12.2.1).length)<|
 (Cy.k (Dop.AR.mk 13 t1 y4.1.1.b y4.1.1.c y4.1.1.d (List.getD (PS.l y12.2.1) (PS.at_ y12.2.1 -1).toNat Dop.d4).text y4.1.1.n y4.1.1.AZ y4.1.1.at_) y12.2.1).bind fun y14=>
 tK.1 y14.1.1 y14.2.1)<|
 CS t1 y12.2.1)<|
 (Cx.k ([45,62]:List UInt8) y7.2.1).bind fun y9=>
 ci y9.1.1 (ck (Ap (PS.at_ y9.2.1 -1))<|
 ck (0<=PS.at_ y9.2.1 -1/\PS.at_ y9.2.1 -1<I (PS.l y9.2.1).length)<|
 ci ((List.getD (PS.l y9.2.1) (PS.at_ y9.2.1 -1).toNat Dop.d4).text=(45:UInt8)::(62:UInt8)::[]) ((IJ.k 1 y9.2.1).bind fun y12=>
 (Cy.k (Dop.AR.mk 8 t1 y4.1.1.b y4.1.1.c y4.1.1.d y12.1.1.text 1 y4.1.1.AZ y4.1.1.at_) y12.2.1).bind fun y13=>
 tK.1 y13.1.1 y13.2.1)<|
 (IJ.k 1 y9.2.1).bind fun y12=>
 (Cy.k (Dop.AR.mk 8 t1 y4.1.1.b y4.1.1.c y4.1.1.d y12.1.1.text y4.1.1.n y4.1.1.AZ y4.1.1.at_) y12.2.1).bind fun y13=>
 tK.1 y13.1.1 y13.2.1)<|
 (Cx.k ([43,43]:List UInt8) y9.2.1).bind fun y11=>
 ci y11.1.1 (ci y11.1.1 (ck (Ap (PS.at_ y11.2.1 -1))<|
 ck (0<=PS.at_ y11.2.1 -1/\PS.at_ y11.2.1 -1<I (PS.l y11.2.1).length)<|
 (Cy.k (Dop.AR.mk 13 t1 y4.1.1.b y4.1.1.c y4.1.1.d (List.getD (PS.l y11.2.1) (PS.at_ y11.2.1 -1).toNat Dop.d4).text y4.1.1.n y4.1.1.AZ y4.1.1.at_) y11.2.1).bind fun y14=>
 tK.1 y14.1.1 y14.2.1)<|
 CS t1 y11.2.1)<|
 (Cx.k ([45,45]:List UInt8) y11.2.1).bind fun y13=>
 ci y13.1.1 (ck (Ap (PS.at_ y13.2.1 -1))<|
 ck (0<=PS.at_ y13.2.1 -1/\PS.at_ y13.2.1 -1<I (PS.l y13.2.1).length)<|
 (Cy.k (Dop.AR.mk 13 t1 y4.1.1.b y4.1.1.c y4.1.1.d (List.getD (PS.l y13.2.1) (PS.at_ y13.2.1 -1).toNat Dop.d4).text y4.1.1.n y4.1.1.AZ y4.1.1.at_) y13.2.1).bind fun y15=>
 tK.1 y15.1.1 y15.2.1)<|
 CS t1 y13.2.1)<|
 CS (-1) k0
def Di.kS (rK:As.T) (tK:Di.KT):Di.KT:=(Pc.kB rK tK,())
def Di.kL (rK:As.T) (n:Nat):Di.KT:=Cv (Di.kS rK) n
def Di.k0 (rK:As.T) (tK:Di.KT) (t1:Int) (k0:PS):R1 Int PS:=
 tK.1 t1 k0
def Di.kf (rK:As.T) (t1:Int) (k0:PS):R1 Int PS:=Di.k0 rK (Di.kL rK 1000000) t1 k0
def As.kS (r:As.T):As.T:=(fun x=>Dg.kf r x.2.1,fun x=>within r.2.2.1 x.2.1,fun x=>Dz.kf r x.2.1,fun x=>Jh.kf r x.2.1,fun x=>C4.kf r x.1.2.1 x.2.1,fun x=>Dh.kf r x.2.1,fun x=>within r.2.2.2.2.2.1 x.2.1,fun x=>Ji.kf r x.2.1,fun x=>D8.kf r x.2.1,fun x=>Di.kf r x.1.2.1 x.2.1,fun x=>within r.2.2.2.1 x.2.1,())
def As.kR (n:Nat):As.T:=Cv As.kS n
def Dg.Kc (n:Nat):=kd 205 Dg.p (As.kR n).1
def Dg.Od:=Dg.Kc FU
def Dg.k:=Dg.kr (As.kR FU)
def DB.Kc (n:Nat):=kd 180 DB.p (As.kR n).2.1
abbrev Dz.kq (n:Nat):((Unit×Unit)×(PS×Unit))->Option ((Int×Unit)×(PS×Unit)):=(As.kR n).2.2.1
def Dz.Kc (n:Nat):=kd 234 Dz.p (As.kR n).2.2.1
abbrev Jh.kq (n:Nat):((Unit×Unit)×(PS×Unit))->Option ((Int×Unit)×(PS×Unit)):=(As.kR n).2.2.2.1
def Jh.Kc (n:Nat):=kd 254 Jh.p (As.kR n).2.2.2.1
def C4.Kc (n:Nat):=kd 261 C4.p (As.kR n).2.2.2.2.1
abbrev Dh.kq (n:Nat):((Unit×Unit)×(PS×Unit))->Option ((Int×Unit)×(PS×Unit)):=(As.kR n).2.2.2.2.2.1
def Dh.Kc (n:Nat):=kd 263 Dh.p (As.kR n).2.2.2.2.2.1
def CN.Kc (n:Nat):=kd 180 CN.p (As.kR n).2.2.2.2.2.2.1
def Ji.Kc (n:Nat):=kd 265 Ji.p (As.kR n).2.2.2.2.2.2.2.1
def D8.Kc (n:Nat):=kd 266 D8.p (As.kR n).2.2.2.2.2.2.2.2.1
def Di.Kc (n:Nat):=kd 264 Di.p (As.kR n).2.2.2.2.2.2.2.2.2.1
def DC.Kc (n:Nat):=kd 180 DC.p (As.kR n).2.2.2.2.2.2.2.2.2.2.1
def As.Re (n:Nat):List (CC Dop.D4):=[Dg.Kc n,DB.Kc n,Dz.Kc n,Jh.Kc n,C4.Kc n,Dh.Kc n,CN.Kc n,Ji.Kc n,D8.Kc n,Di.Kc n,DC.Kc n]
theorem As.E0: ∀ n,(Dg.Kc n).Holds prog/\(DB.Kc n).Holds prog/\(Dz.Kc n).Holds prog/\(Jh.Kc n).Holds prog/\(C4.Kc n).Holds prog/\(Dh.Kc n).Holds prog/\(CN.Kc n).Holds prog/\(Ji.Kc n).Holds prog/\(D8.Kc n).Holds prog/\(Di.Kc n).Holds prog/\(DC.Kc n).Holds prog/\True
 | 0=>⟨AN AH Dg.ok,AN AH (by kernel_rfl),AN AH Dz.ok,AN AH Jh.ok,AN AH C4.ok,AN AH Dh.ok,AN AH (by kernel_rfl),AN AH Ji.ok,AN AH D8.ok,AN AH Di.ok,AN AH (by kernel_rfl),trivial⟩
 | n+1=>by
  obtain ⟨h0,h1,h2,h3,h4,h5,h6,h7,h8,h9,h10,_⟩:=As.E0 n
  have hh: ∀ c∈As.Re n,c.Holds prog:=(hc h0 (hc h1 (hc h2 (hc h3 (hc h4 (hc h5 (hc h6 (hc h7 (hc h8 (hc h9 (hc h10 hn)))))))))))
  exact ⟨kh AH (Ac hh hn) Dg.ok (by kernel_rfl),
   (j7.holds (m:=Dz.kq n) h2),
   E7 AH (Ac hh (hc fields.holds (hc Eo.Kh (hc Cx.Kh (hc Fc.Kh (hc Cy.Kh hn)))))) Dz.ok (fun t x=>Dz.k0 (As.kR n) t x.2.1) (fun c=>(fun a t10 t11 t12 k0=>c 3 Dz.q3 rfl (((),a,t10,t11,t12,()),(k0,())),())) (Dz.kS (As.kR n)) (by kernel_rfl),
   kh AH (Ac hh (hc Eo.Kh (hc Cx.Kh (hc Fc.Kh (hc DN.Kh (hc Cy.Kh hn)))))) Jh.ok (by kernel_rfl),
   E7 AH (Ac hh (hc LC.Kh (hc fields.holds (hc Eo.Kh (hc Cx.Kh (hc Fc.Kh (hc Cy.Kh hn))))))) C4.ok (fun t x=>C4.k0 (As.kR n) t x.1.2.1 x.2.1) (fun c=>(fun k a k0=>c 4 C4.q4 rfl (((),k,a,()),(k0,())),fun k a t24 t25 t26 k0=>c 5 C4.q5 rfl (((),k,a,t24,t25,t26,()),(k0,())),())) (C4.kS (As.kR n)) (by kernel_rfl),
   E7 AH (Ac hh (hc Eo.Kh (hc fields.holds (hc Cx.Kh (hc Fc.Kh (hc Cy.Kh (hc DN.Kh (hc DM.Kh (hc Pn.Kh (hc Mz.Kh (hc He.Kh hn))))))))))) Dh.ok (fun t x=>Dh.k0 (As.kR n) t x.2.1) (fun c=>(fun t3 t13 t14 t15 k0=>c 3 Dh.q3 rfl (((),t3,t13,t14,t15,()),(k0,())),())) (Dh.kS (As.kR n)) (by kernel_rfl),
   (j9.holds (m:=Dh.kq n) h5),
   kh AH (Ac hh (hc Eo.Kh (hc Fc.Kh (hc Cx.Kh (hc DN.Kh (hc Cy.Kh hn)))))) Ji.ok (by kernel_rfl),
   E7 AH (Ac hh (hc Cx.Kh (hc DN.Kh (hc Bq.Kh hn)))) D8.ok (fun t x=>D8.k0 (As.kR n) t x.2.1) (fun c=>(fun l k0=>c 2 D8.q2 rfl (((),l,()),(k0,())),())) (D8.kS (As.kR n)) (by kernel_rfl),
   E7 AH (Ac hh (hc Eo.Kh (hc Fc.Kh (hc Cx.Kh (hc DN.Kh (hc IJ.Kh (hc Cy.Kh hn))))))) Di.ok (fun t x=>Di.k0 (As.kR n) t x.1.2.1 x.2.1) (fun c=>(fun t1 k0=>c 1 Di.q1 rfl (((),t1,()),(k0,())),())) (Di.kS (As.kR n)) (by kernel_rfl),
   (j8.holds (m:=Jh.kq n) h3),
   trivial⟩
theorem Dg.IL:Dg.Od.Holds prog:=(As.E0 FU).1
end
end Go.Proofs.Tryz
