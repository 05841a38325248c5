/- parser.list in plain words. -/
import Derived.Test.YtpjlciengdhjoaaGreatDoorMq
import Derived.Test.YtpjlciengdhjoaaGreatDoorMj
set_option maxRecDepth 100000
namespace Go.Proofs.Tryz
open Go Go.En
noncomputable section
def B6.dB {R:Type} (x:Int) (p:PS) (out:Int) (f:Int->PS->Option R):Option R:=(GY.k x p).bind fun y=>(FD.k 20 y.1.1).bind fun z=>(Dj.k (Dop.AV.mk z.1.1.kind x out z.1.1.c z.1.1.d z.1.1.text z.1.1.n z.1.1.Cj z.1.1.at_) y.2.1).bind fun v=>f v.1.1 v.2.1
def B6.ay:List Int->PS->Int->Option ((Int×Unit)×(PS×Unit))
 | [],p,out=>some ((out,()),(p,()))
 | x::r,p,out=>B6.dB x p out fun o q=>B6.ay r q o
def B6.k (l:List Int) (p:PS):Option ((Int×Unit)×(PS×Unit)):=match decide (l.length<9223372036854775807) with
 | true=>B6.ay l.reverse p (-1)
 | false=>none
theorem B6.YK (x:Int) (p:PS) (out:Int):B6.step x ((),(p,((),()),(out,()),()))=B6.dB x p out fun o q=>some ((),(q,((),()),(o,()),())):=by kernel_rfl
theorem B6.NR: ∀ (l:List Int) (p:PS) (out:Int),((B6.go l ((),(p,((),()),(out,()),()))).bind fun y=>some ((y.2.2.2.1.1,()),(y.2.1,())))=B6.ay l p out
 | [],p,out=>rfl
 | x::r,p,out=>(congrArg (fun z=>(Option.bind z (B6.go r)).bind fun y=>some ((y.2.2.2.1.1,()),(y.2.1,()))) (B6.YK x p out)).trans (by
  unfold B6.dB
  simp only [Option.bind_assoc,Option.bind_some]
  exact congrArg _ (funext fun y=>congrArg _ (funext fun z=>congrArg _ (funext fun v=>B6.NR r v.2.1 v.1.1))))
theorem B6.dn (x):B6.R x=B6.k x.1.2.1 x.2.1:=by
 unfold B6.R B6.k
 cases decide (x.1.2.1.length<9223372036854775807) with
 | true=>exact B6.NR _ _ _
 | false=>rfl
def B6.Kc:BU Dop.D4:=⟨46,B6.p.bn,B6.p.sp,B6.p.rs,B6.p.flat,.opt fun x=>B6.k x.1.2.1 x.2.1⟩
theorem B6.Kh:B6.Kc.Holds prog:=Mx B6.holds (by unfold B6.Kc B6.c;rw [show B6.R=fun x=>B6.k x.1.2.1 x.2.1 from funext B6.dn])
end
set_option maxHeartbeats 4000000
noncomputable section
def KK.k :C9 (List (List UInt8)):=
 Aw (([124,124]:List UInt8)::([38,38]:List UInt8)::([124]:List UInt8)::([94]:List UInt8)::([38]:List UInt8)::([61,61,32,33,61]:List UInt8)::([60,32,60,61,32,62,32,62,61]:List UInt8)::([60,60,32,62,62]:List UInt8)::([43,32,45]:List UInt8)::([42,32,47,32,37]:List UInt8)::[])
def KK.Kc:=kd 210 KK.p fun x=>KK.k
theorem KK.Kh:KK.Kc.Holds prog:=kh AJ hn KK.ok (by kernel_rfl)
abbrev C2.kr (r:Ab.T) (k0:PS):R1 Int PS:=r.1 (((),()),(k0,()))
abbrev BR.kr (r:Ab.T) (k0:PS):R1 Int PS:=r.2.1 (((),(),()),(k0,()))
abbrev Fo.kr (r:Ab.T) (k0:PS):R1 Int PS:=r.2.2.2.1 (((),()),(k0,()))
abbrev Bg.kr (r:Ab.T) (k:Int) (k0:PS):R1 Int PS:=r.2.2.2.2.1 (((),k,()),(k0,()))
abbrev Cc.kr (r:Ab.T) (k0:PS):R1 Int PS:=r.2.2.2.2.2.1 (((),()),(k0,()))
abbrev BD.kr (r:Ab.T) (k0:PS):R1 Int PS:=r.2.2.2.2.2.2.1 (((),(),()),(k0,()))
abbrev Gf.kr (r:Ab.T) (k0:PS):R1 Int PS:=r.2.2.2.2.2.2.2.1 (((),()),(k0,()))
abbrev Gg.kr (r:Ab.T) (k0:PS):R1 Int PS:=r.2.2.2.2.2.2.2.2.1 (((),()),(k0,()))
abbrev Cu.kr (r:Ab.T) (t1:Int) (k0:PS):R1 Int PS:=r.2.2.2.2.2.2.2.2.2.1 (((),t1,()),(k0,()))
abbrev Bj.kr (r:Ab.T) (k0:PS):R1 Int PS:=r.2.2.2.2.2.2.2.2.2.2.1 (((),(),()),(k0,()))
def C2.kf (rK:Ab.T) (k0:PS):R1 Int PS:=
 (BR.kr rK k0).bind PF
abbrev H6.T:Type:=Int->(List (List UInt8))->Int->Int->PS->R1 Int PS
abbrev Ct.KT:Type:=H6.T×Unit
def H6.kB (rK:Ab.T) (tK:Ct.KT):H6.T:=fun a t10 t11 t12 k0=>
 let A1:=List.getD t10 t12.toNat []
 ci (t12<t11) (ck (0<=t12/\t12<I t10.length)<|
 ck (t12.toNat<t10.length)<|
 (Ef.k k0).bind fun y5=>
 (Em.k A1 y5.2.1).bind fun y4=>
 ci y4.1.1 ((FD.k 5 y5.1.1.at_).bind fun y3=>
 (C2.kr rK y4.2.1).bind fun y2=>
 (Dj.k (Dop.AV.mk y3.1.1.kind a y2.1.1 y3.1.1.c y3.1.1.d A1 y3.1.1.n y3.1.1.Cj y3.1.1.at_) y2.2.1).bind PF)<|
 ck (Al (t12+1))<|
 tK.1 a t10 t11 (t12+1) y4.2.1)<|
 B7 a k0
def Ct.kS (rK:Ab.T) (tK:Ct.KT):Ct.KT:=(H6.kB rK tK,())
def Ct.kL (rK:Ab.T) (n:Nat):Ct.KT:=Bd (Ct.kS rK) n
def Ct.k0 (rK:Ab.T) (tK:Ct.KT) (k0:PS):R1 Int PS:=
 (Fo.kr rK k0).bind fun y1=>
 ck (Yy ([61,32,43,61,32,45,61,32,42,61,32,47,61,32,37,61,32,38,61,32,124,61,32,94,61,32,60,60,61,32,62,62,61]:List UInt8) && ((Lib.fields ([61,32,43,61,32,45,61,32,42,61,32,47,61,32,37,61,32,38,61,32,124,61,32,94,61,32,60,60,61,32,62,62,61]:List UInt8)).length<=maxLen))<|
 tK.1 y1.1.1 (List.map (fun (a:List UInt8)=>a) (Lib.fields ([61,32,43,61,32,45,61,32,42,61,32,47,61,32,37,61,32,38,61,32,124,61,32,94,61,32,60,60,61,32,62,62,61]:List UInt8))) (I (List.map (fun (a:List UInt8)=>a) (Lib.fields ([61,32,43,61,32,45,61,32,42,61,32,47,61,32,37,61,32,38,61,32,124,61,32,94,61,32,60,60,61,32,62,62,61]:List UInt8))).length) 0 y1.2.1
def Ct.kf (rK:Ab.T) (k0:PS):R1 Int PS:=Ct.k0 rK (Ct.kL rK 1000000) k0
def Fo.kf (rK:Ab.T) (k0:PS):R1 Int PS:=
 (Bg.kr rK 0 k0).bind fun y8=>
 (Ef.k y8.2.1).bind fun y7=>
 (Em.k ([63]:List UInt8) y7.2.1).bind fun y6=>
 ci (!y6.1.1) (B7 y8.1.1 y6.2.1)<|
 (FD.k 6 y7.1.1.at_).bind fun y5=>
 (C2.kr rK y6.2.1).bind fun y4=>
 (Fw.k ([58]:List UInt8) y4.2.1).bind fun y3=>
 (Bj.kr rK y3.2.1).bind fun y2=>
 (Dj.k (Dop.AV.mk y5.1.1.kind y8.1.1 y4.1.1 y2.1.1 y5.1.1.d y5.1.1.text y5.1.1.n y5.1.1.Cj y5.1.1.at_) y2.2.1).bind PF
abbrev K5.T:Type:=Int->Int->PS->R1 Int PS
abbrev GG.T:Type:=Int->Int->(List (List UInt8))->Int->Int->PS->R1 Int PS
abbrev Bg.KT:Type:=K5.T×GG.T×Unit
def K5.kB (rK:Ab.T) (tK:Bg.KT):K5.T:=fun k a k0=>
 (KK.k).bind fun y1=>
 ck (0<=k/\k<I y1.1.1.length)<|
 ck (k.toNat<y1.1.1.length)<|
 ck (Yy (List.getD y1.1.1 k.toNat []) && ((Lib.fields (List.getD y1.1.1 k.toNat [])).length<=maxLen))<|
 tK.2.1 k a (List.map (fun (a:List UInt8)=>a) (Lib.fields (List.getD y1.1.1 k.toNat []))) (I (List.map (fun (a:List UInt8)=>a) (Lib.fields (List.getD y1.1.1 k.toNat []))).length) 0 k0
def GG.kB (rK:Ab.T) (tK:Bg.KT):GG.T:=fun k a t24 t25 t26 k0=>
 let A1:=List.getD t24 t26.toNat []
 ci (t26<t25) (ck (0<=t26/\t26<I t24.length)<|
 ck (t26.toNat<t24.length)<|
 (Ef.k k0).bind fun y5=>
 (Em.k A1 y5.2.1).bind fun y4=>
 ci y4.1.1 ((FD.k 4 y5.1.1.at_).bind fun y3=>
 ck (Al (k+1))<|
 (Bg.kr rK (k+1) y4.2.1).bind fun y2=>
 (Dj.k (Dop.AV.mk y3.1.1.kind a y2.1.1 y3.1.1.c y3.1.1.d A1 y3.1.1.n y3.1.1.Cj y3.1.1.at_) y2.2.1).bind fun y1=>
 tK.1 k y1.1.1 y1.2.1)<|
 ck (Al (t26+1))<|
 tK.2.1 k a t24 t25 (t26+1) y4.2.1)<|
 B7 a k0
def Bg.kS (rK:Ab.T) (tK:Bg.KT):Bg.KT:=(K5.kB rK tK,GG.kB rK tK,())
def Bg.kL (rK:Ab.T) (n:Nat):Bg.KT:=Bd (Bg.kS rK) n
def Bg.k0 (rK:Ab.T) (tK:Bg.KT) (k:Int) (k0:PS):R1 Int PS:=
 (KK.k).bind fun y2=>
 ci (k=I y2.1.1.length) ((Cc.kr rK k0).bind PF)<|
 ck (Al (k+1))<|
 (Bg.kr rK (k+1) k0).bind fun y1=>
 tK.1 k y1.1.1 y1.2.1
def Bg.kf (rK:Ab.T) (k:Int) (k0:PS):R1 Int PS:=Bg.k0 rK (Bg.kL rK 1000000) k k0
abbrev H8.T:Type:=Int->(List (List UInt8))->Int->Int->PS->R1 Int PS
abbrev Cc.KT:Type:=H8.T×Unit
def H8.kB (rK:Ab.T) (tK:Cc.KT):H8.T:=fun t3 t13 t14 t15 k0=>
 let A1:=List.getD t13 t15.toNat []
 ci (t15<t14) (ck (0<=t15/\t15<I t13.length)<|
 ck (t15.toNat<t13.length)<|
 (Em.k A1 k0).bind fun y4=>
 ci y4.1.1 ((FD.k 3 t3).bind fun y3=>
 ci (I A1.length=2) ((BD.kr rK y4.2.1).bind fun y2=>
 (Dj.k (Dop.AV.mk 12 y2.1.1 y3.1.1.b y3.1.1.c y3.1.1.d A1 y3.1.1.n y3.1.1.Cj y3.1.1.at_) y2.2.1).bind PF)<|
 (BD.kr rK y4.2.1).bind fun y2=>
 (Dj.k (Dop.AV.mk y3.1.1.kind y2.1.1 y3.1.1.b y3.1.1.c y3.1.1.d A1 y3.1.1.n y3.1.1.Cj y3.1.1.at_) y2.2.1).bind PF)<|
 ck (Al (t15+1))<|
 tK.1 t3 t13 t14 (t15+1) y4.2.1)<|
 (Em.k ([115,105,122,101,111,102]:List UInt8) k0).bind fun y9=>
 ci y9.1.1 ((FD.k 11 t3).bind fun y6=>
 (Fw.k ([40]:List UInt8) y9.2.1).bind fun y5=>
 (DZ.k y5.2.1).bind fun y4=>
 (Tn.k y4.1.1 y4.2.1).bind fun y3=>
 (Fw.k ([41]:List UInt8) y3.2.1).bind fun y2=>
 (Dj.k (Dop.AV.mk y6.1.1.kind y6.1.1.a y6.1.1.b y6.1.1.c y6.1.1.d y6.1.1.text y6.1.1.n y3.1.1 y6.1.1.at_) y2.2.1).bind PF)<|
 (Oi.k ([40]:List UInt8) y9.2.1).bind fun y8=>
 let z1:R1 Int PS:=
 (Gf.kr rK y8.2.1).bind fun y2=>
 (Cu.kr rK y2.1.1 y2.2.1).bind PF
 ci y8.1.1 (ck (Al (PS.at_ y8.2.1+1))<|
 ci (PS.at_ y8.2.1+1<I (PS.l y8.2.1).length) (ck (Al (PS.at_ y8.2.1+1))<|
 (H3.k (PS.l y8.2.1) (PS.at_ y8.2.1+1) (PS.top y8.2.1) (PS.deep y8.2.1) (PS.e y8.2.1) (PS.when y8.2.1)).bind fun y7=>
 ci y7.1.1 ((FD.k 10 t3).bind fun y6=>
 (Fw.k ([40]:List UInt8) y8.2.1).bind fun y5=>
 (DZ.k y5.2.1).bind fun y4=>
 (Fw.k ([41]:List UInt8) y4.2.1).bind fun y3=>
 (BD.kr rK y3.2.1).bind fun y2=>
 (Dj.k (Dop.AV.mk y6.1.1.kind y2.1.1 y6.1.1.b y6.1.1.c y6.1.1.d y6.1.1.text y6.1.1.n y4.1.1 y6.1.1.at_) y2.2.1).bind PF)<|
 z1)<|
 z1)<|
 z1
def Cc.kS (rK:Ab.T) (tK:Cc.KT):Cc.KT:=(H8.kB rK tK,())
def Cc.kL (rK:Ab.T) (n:Nat):Cc.KT:=Bd (Cc.kS rK) n
def Cc.k0 (rK:Ab.T) (tK:Cc.KT) (k0:PS):R1 Int PS:=
 (Ef.k k0).bind fun y1=>
 ck (Yy ([43,43,32,45,45,32,45,32,33,32,126,32,42,32,38]:List UInt8) && ((Lib.fields ([43,43,32,45,45,32,45,32,33,32,126,32,42,32,38]:List UInt8)).length<=maxLen))<|
 tK.1 y1.1.1.at_ (List.map (fun (a:List UInt8)=>a) (Lib.fields ([43,43,32,45,45,32,45,32,33,32,126,32,42,32,38]:List UInt8))) (I (List.map (fun (a:List UInt8)=>a) (Lib.fields ([43,43,32,45,45,32,45,32,33,32,126,32,42,32,38]:List UInt8))).length) 0 y1.2.1
def Cc.kf (rK:Ab.T) (k0:PS):R1 Int PS:=Cc.k0 rK (Cc.kL rK 1000000) k0
def Gf.kf (rK:Ab.T) (k0:PS):R1 Int PS:=
 (Ef.k k0).bind fun y9=>
 (FD.k 1 y9.1.1.at_).bind fun y8=>
 ci (y9.1.1.kind=3) (ck (Al (PS.at_ y9.2.1+1))<|
 (Dj.k (Dop.AV.mk y8.1.1.kind y8.1.1.a y8.1.1.b y8.1.1.c y8.1.1.d y8.1.1.text y9.1.1.n y8.1.1.Cj y8.1.1.at_) ((PS.VT y9.2.1 (PS.at_ y9.2.1+1)))).bind PF)<|
 ci (y9.1.1.kind=1) (ck (Al (PS.at_ y9.2.1+1))<|
 (Em.k ([40]:List UInt8) ((PS.VT y9.2.1 (PS.at_ y9.2.1+1)))).bind fun y3=>
 ci y3.1.1 ((Gg.kr rK y3.2.1).bind fun y2=>
 (Dj.k (Dop.AV.mk 9 y2.1.1 y8.1.1.b y8.1.1.c y8.1.1.d y9.1.1.text y8.1.1.n y8.1.1.Cj y8.1.1.at_) y2.2.1).bind PF)<|
 (Dj.k (Dop.AV.mk 2 y8.1.1.a y8.1.1.b y8.1.1.c y8.1.1.d y9.1.1.text y8.1.1.n y8.1.1.Cj y8.1.1.at_) y3.2.1).bind PF)<|
 (Em.k ([40]:List UInt8) y9.2.1).bind fun y7=>
 ci y7.1.1 ((C2.kr rK y7.2.1).bind fun y2=>
 (Fw.k ([41]:List UInt8) y2.2.1).bind fun y1=>
 B7 y2.1.1 y1.2.1)<|
 (Em.k ([103,101,116,99]:List UInt8) y7.2.1).bind fun y6=>
 ci y6.1.1 ((Fw.k ([40]:List UInt8) y6.2.1).bind fun y3=>
 (Fw.k ([41]:List UInt8) y3.2.1).bind fun y2=>
 (Dj.k (Dop.AV.mk 14 y8.1.1.a y8.1.1.b y8.1.1.c y8.1.1.d y8.1.1.text y8.1.1.n y8.1.1.Cj y8.1.1.at_) y2.2.1).bind PF)<|
 (Fw.k ([112,117,116,99]:List UInt8) y6.2.1).bind fun y5=>
 (Fw.k ([40]:List UInt8) y5.2.1).bind fun y4=>
 (C2.kr rK y4.2.1).bind fun y3=>
 (Fw.k ([41]:List UInt8) y3.2.1).bind fun y2=>
 (Dj.k (Dop.AV.mk 15 y3.1.1 y8.1.1.b y8.1.1.c y8.1.1.d y8.1.1.text y8.1.1.n y8.1.1.Cj y8.1.1.at_) y2.2.1).bind PF
def Gg.kf (rK:Ab.T) (k0:PS):R1 Int PS:=(AU (S:=Dop.D4) prog 214 tb (Ab.ct rK++[Em.Kc,Fw.Kc,B6.Kc]) Gg.p).Ei 3000 1000000 Gg.p.sp (((),()),(k0,()))
abbrev K6.T:Type:=Int->PS->R1 Int PS
abbrev Cu.KT:Type:=K6.T×Unit
def K6.kB (rK:Ab.T) (tK:Cu.KT):K6.T:=fun t1 k0=>
 ci (k0.e=0) ((Ef.k k0).bind fun y8=>
 (FD.k 7 y8.1.1.at_).bind fun y7=>
 (Em.k ([91]:List UInt8) y8.2.1).bind fun y6=>
 ci y6.1.1 ((C2.kr rK y6.2.1).bind fun y3=>
 (Fw.k ([93]:List UInt8) y3.2.1).bind fun y2=>
 (Dj.k (Dop.AV.mk y7.1.1.kind t1 y3.1.1 y7.1.1.c y7.1.1.d y7.1.1.text y7.1.1.n y7.1.1.Cj y7.1.1.at_) y2.2.1).bind fun y1=>
 tK.1 y1.1.1 y1.2.1)<|
 (Em.k ([46]:List UInt8) y6.2.1).bind fun y5=>
 ci y5.1.1 (ci y5.1.1 (ck (Al (PS.at_ y5.2.1 -1))<|
 ck (0<=PS.at_ y5.2.1 -1/\PS.at_ y5.2.1 -1<I (PS.l y5.2.1).length)<|
 ci ((List.getD (PS.l y5.2.1) (PS.at_ y5.2.1 -1).toNat Dop.d4).text=(45:UInt8)::(62:UInt8)::[]) ((Ma.k 1 y5.2.1).bind fun y2=>
 (Dj.k (Dop.AV.mk 8 t1 y7.1.1.b y7.1.1.c y7.1.1.d y2.1.1.text 1 y7.1.1.Cj y7.1.1.at_) y2.2.1).bind fun y1=>
 tK.1 y1.1.1 y1.2.1)<|
 (Ma.k 1 y5.2.1).bind fun y2=>
 (Dj.k (Dop.AV.mk 8 t1 y7.1.1.b y7.1.1.c y7.1.1.d y2.1.1.text y7.1.1.n y7.1.1.Cj y7.1.1.at_) y2.2.1).bind fun y1=>
 tK.1 y1.1.1 y1.2.1)<|
 (Em.k ([43,43]:List UInt8) y5.2.1).bind fun y3=>
 ci y3.1.1 (ci y3.1.1 (ck (Al (PS.at_ y3.2.1 -1))<|
 ck (0<=PS.at_ y3.2.1 -1/\PS.at_ y3.2.1 -1<I (PS.l y3.2.1).length)<|
 (Dj.k (Dop.AV.mk 13 t1 y7.1.1.b y7.1.1.c y7.1.1.d (List.getD (PS.l y3.2.1) (PS.at_ y3.2.1 -1).toNat Dop.d4).text y7.1.1.n y7.1.1.Cj y7.1.1.at_) y3.2.1).bind fun y1=>
 tK.1 y1.1.1 y1.2.1)<|
 B7 t1 y3.2.1)<|
 (Em.k ([45,45]:List UInt8) y3.2.1).bind fun y2=>
 ci y2.1.1 (ck (Al (PS.at_ y2.2.1 -1))<|
 ck (0<=PS.at_ y2.2.1 -1/\PS.at_ y2.2.1 -1<I (PS.l y2.2.1).length)<|
 (Dj.k (Dop.AV.mk 13 t1 y7.1.1.b y7.1.1.c y7.1.1.d (List.getD (PS.l y2.2.1) (PS.at_ y2.2.1 -1).toNat Dop.d4).text y7.1.1.n y7.1.1.Cj y7.1.1.at_) y2.2.1).bind fun y1=>
 tK.1 y1.1.1 y1.2.1)<|
 B7 t1 y2.2.1)<|
 (Em.k ([45,62]:List UInt8) y5.2.1).bind fun y4=>
 ci y4.1.1 (ck (Al (PS.at_ y4.2.1 -1))<|
 ck (0<=PS.at_ y4.2.1 -1/\PS.at_ y4.2.1 -1<I (PS.l y4.2.1).length)<|
 ci ((List.getD (PS.l y4.2.1) (PS.at_ y4.2.1 -1).toNat Dop.d4).text=(45:UInt8)::(62:UInt8)::[]) ((Ma.k 1 y4.2.1).bind fun y2=>
 (Dj.k (Dop.AV.mk 8 t1 y7.1.1.b y7.1.1.c y7.1.1.d y2.1.1.text 1 y7.1.1.Cj y7.1.1.at_) y2.2.1).bind fun y1=>
 tK.1 y1.1.1 y1.2.1)<|
 (Ma.k 1 y4.2.1).bind fun y2=>
 (Dj.k (Dop.AV.mk 8 t1 y7.1.1.b y7.1.1.c y7.1.1.d y2.1.1.text y7.1.1.n y7.1.1.Cj y7.1.1.at_) y2.2.1).bind fun y1=>
 tK.1 y1.1.1 y1.2.1)<|
 (Em.k ([43,43]:List UInt8) y4.2.1).bind fun y3=>
 ci y3.1.1 (ci y3.1.1 (ck (Al (PS.at_ y3.2.1 -1))<|
 ck (0<=PS.at_ y3.2.1 -1/\PS.at_ y3.2.1 -1<I (PS.l y3.2.1).length)<|
 (Dj.k (Dop.AV.mk 13 t1 y7.1.1.b y7.1.1.c y7.1.1.d (List.getD (PS.l y3.2.1) (PS.at_ y3.2.1 -1).toNat Dop.d4).text y7.1.1.n y7.1.1.Cj y7.1.1.at_) y3.2.1).bind fun y1=>
 tK.1 y1.1.1 y1.2.1)<|
 B7 t1 y3.2.1)<|
 (Em.k ([45,45]:List UInt8) y3.2.1).bind fun y2=>
 ci y2.1.1 (ck (Al (PS.at_ y2.2.1 -1))<|
 ck (0<=PS.at_ y2.2.1 -1/\PS.at_ y2.2.1 -1<I (PS.l y2.2.1).length)<|
 (Dj.k (Dop.AV.mk 13 t1 y7.1.1.b y7.1.1.c y7.1.1.d (List.getD (PS.l y2.2.1) (PS.at_ y2.2.1 -1).toNat Dop.d4).text y7.1.1.n y7.1.1.Cj y7.1.1.at_) y2.2.1).bind fun y1=>
 tK.1 y1.1.1 y1.2.1)<|
 B7 t1 y2.2.1)<|
 B7 (-1) k0
def Cu.kS (rK:Ab.T) (tK:Cu.KT):Cu.KT:=(K6.kB rK tK,())
def Cu.kL (rK:Ab.T) (n:Nat):Cu.KT:=Bd (Cu.kS rK) n
def Cu.k0 (rK:Ab.T) (tK:Cu.KT) (t1:Int) (k0:PS):R1 Int PS:=
 tK.1 t1 k0
def Cu.kf (rK:Ab.T) (t1:Int) (k0:PS):R1 Int PS:=Cu.k0 rK (Cu.kL rK 1000000) t1 k0
def Ab.kS (r:Ab.T):Ab.T:=(fun x=>C2.kf r x.2.1,fun x=>within r.2.2.1 x.2.1,fun x=>Ct.kf r x.2.1,fun x=>Fo.kf r x.2.1,fun x=>Bg.kf r x.1.2.1 x.2.1,fun x=>Cc.kf r x.2.1,fun x=>within r.2.2.2.2.2.1 x.2.1,fun x=>Gf.kf r x.2.1,fun x=>Gg.kf r x.2.1,fun x=>Cu.kf r x.1.2.1 x.2.1,fun x=>within r.2.2.2.1 x.2.1,())
def Ab.kR (n:Nat):Ab.T:=Bd Ab.kS n
def C2.Kc (n:Nat):=kd 174 C2.p (Ab.kR n).1
def C2.JE:=C2.Kc FU
def C2.k:=C2.kr (Ab.kR FU)
def BR.Kc (n:Nat):=kd 143 BR.p (Ab.kR n).2.1
abbrev Ct.kq (n:Nat):((Unit×Unit)×(PS×Unit))->Option ((Int×Unit)×(PS×Unit)):=(Ab.kR n).2.2.1
def Ct.Kc (n:Nat):=kd 200 Ct.p (Ab.kR n).2.2.1
abbrev Fo.kq (n:Nat):((Unit×Unit)×(PS×Unit))->Option ((Int×Unit)×(PS×Unit)):=(Ab.kR n).2.2.2.1
def Fo.Kc (n:Nat):=kd 208 Fo.p (Ab.kR n).2.2.2.1
def Bg.Kc (n:Nat):=kd 209 Bg.p (Ab.kR n).2.2.2.2.1
abbrev Cc.kq (n:Nat):((Unit×Unit)×(PS×Unit))->Option ((Int×Unit)×(PS×Unit)):=(Ab.kR n).2.2.2.2.2.1
def Cc.Kc (n:Nat):=kd 211 Cc.p (Ab.kR n).2.2.2.2.2.1
def BD.Kc (n:Nat):=kd 143 BD.p (Ab.kR n).2.2.2.2.2.2.1
def Gf.Kc (n:Nat):=kd 213 Gf.p (Ab.kR n).2.2.2.2.2.2.2.1
def Gg.Kc (n:Nat):=kd 214 Gg.p (Ab.kR n).2.2.2.2.2.2.2.2.1
def Cu.Kc (n:Nat):=kd 212 Cu.p (Ab.kR n).2.2.2.2.2.2.2.2.2.1
def Bj.Kc (n:Nat):=kd 143 Bj.p (Ab.kR n).2.2.2.2.2.2.2.2.2.2.1
def Ab.PY (n:Nat):List (BU Dop.D4):=[C2.Kc n,BR.Kc n,Ct.Kc n,Fo.Kc n,Bg.Kc n,Cc.Kc n,BD.Kc n,Gf.Kc n,Gg.Kc n,Cu.Kc n,Bj.Kc n]
theorem Ab.Dx: ∀ n,(C2.Kc n).Holds prog/\(BR.Kc n).Holds prog/\(Ct.Kc n).Holds prog/\(Fo.Kc n).Holds prog/\(Bg.Kc n).Holds prog/\(Cc.Kc n).Holds prog/\(BD.Kc n).Holds prog/\(Gf.Kc n).Holds prog/\(Gg.Kc n).Holds prog/\(Cu.Kc n).Holds prog/\(Bj.Kc n).Holds prog/\True
 | 0=>⟨AR AJ C2.ok,AR AJ (by kernel_rfl),AR AJ Ct.ok,AR AJ Fo.ok,AR AJ Bg.ok,AR AJ Cc.ok,AR AJ (by kernel_rfl),AR AJ Gf.ok,AR AJ Gg.ok,AR AJ Cu.ok,AR AJ (by kernel_rfl),trivial⟩
 | n+1=>by
  obtain ⟨h0,h1,h2,h3,h4,h5,h6,h7,h8,h9,h10,_⟩:=Ab.Dx n
  have hh: ∀ c∈Ab.PY n,c.Holds prog:=(hc h0 (hc h1 (hc h2 (hc h3 (hc h4 (hc h5 (hc h6 (hc h7 (hc h8 (hc h9 (hc h10 hn)))))))))))
  exact ⟨kh AJ (Ad hh hn) C2.ok (by kernel_rfl),
   (oR.holds (m:=Ct.kq n) h2),
   GB AJ (Ad hh (hc fields.holds (hc Ef.Kh (hc Em.Kh (hc FD.Kh (hc Dj.Kh hn)))))) Ct.ok (fun t x=>Ct.k0 (Ab.kR n) t x.2.1) (fun c=>(fun a t10 t11 t12 k0=>c 3 Ct.q3 rfl (((),a,t10,t11,t12,()),(k0,())),())) (Ct.kS (Ab.kR n)) (by kernel_rfl),
   kh AJ (Ad hh (hc Ef.Kh (hc Em.Kh (hc FD.Kh (hc Fw.Kh (hc Dj.Kh hn)))))) Fo.ok (by kernel_rfl),
   GB AJ (Ad hh (hc KK.Kh (hc fields.holds (hc Ef.Kh (hc Em.Kh (hc FD.Kh (hc Dj.Kh hn))))))) Bg.ok (fun t x=>Bg.k0 (Ab.kR n) t x.1.2.1 x.2.1) (fun c=>(fun k a k0=>c 4 Bg.q4 rfl (((),k,a,()),(k0,())),fun k a t24 t25 t26 k0=>c 5 Bg.q5 rfl (((),k,a,t24,t25,t26,()),(k0,())),())) (Bg.kS (Ab.kR n)) (by kernel_rfl),
   GB AJ (Ad hh (hc Ef.Kh (hc fields.holds (hc Em.Kh (hc FD.Kh (hc Dj.Kh (hc Fw.Kh (hc DZ.Kh (hc Tn.Kh (hc Oi.Kh (hc H3.Kh hn))))))))))) Cc.ok (fun t x=>Cc.k0 (Ab.kR n) t x.2.1) (fun c=>(fun t3 t13 t14 t15 k0=>c 3 Cc.q3 rfl (((),t3,t13,t14,t15,()),(k0,())),())) (Cc.kS (Ab.kR n)) (by kernel_rfl),
   (oT.holds (m:=Cc.kq n) h5),
   kh AJ (Ad hh (hc Ef.Kh (hc FD.Kh (hc Em.Kh (hc Fw.Kh (hc Dj.Kh hn)))))) Gf.ok (by kernel_rfl),
   kh AJ (Ad hh (hc Em.Kh (hc Fw.Kh (hc B6.Kh hn)))) Gg.ok (by kernel_rfl),
   GB AJ (Ad hh (hc Ef.Kh (hc FD.Kh (hc Em.Kh (hc Fw.Kh (hc Ma.Kh (hc Dj.Kh hn))))))) Cu.ok (fun t x=>Cu.k0 (Ab.kR n) t x.1.2.1 x.2.1) (fun c=>(fun t1 k0=>c 1 Cu.q1 rfl (((),t1,()),(k0,())),())) (Cu.kS (Ab.kR n)) (by kernel_rfl),
   (oS.holds (m:=Fo.kq n) h3),
   trivial⟩
theorem C2.Hi:C2.JE.Holds prog:=(Ab.Dx FU).1
end
end Go.Proofs.Tryz
