/- core.function's jump, with contracts that the kernel can run. -/
import Derived.Test.YtikecakpcfpghaaGreatDoorTwM
import Derived.Test.YtikecakpcfpghaaGreatDoorMp
import Derived.Test.YtikecakpcfpghaaGreatDoorMo
set_option linter.all false
set_option maxRecDepth 100000
namespace Go.Proofs.Tryz
open Go Go.En Go.RowKit
noncomputable def EA.KE:Env Dop.D4:=Aj prog 21 tb [Cj.LO,Gf.Kc,N9.Kc,Aw.Kc,IY.Kc,Fe.Kc,EK.Kc,Ba.Kc,B3.Kc,Bg.LO,Ab.Kc] EA.p
noncomputable def Wz (n:Int) (k:CK) (k1:CT):Option ((Dop.AZ×Unit)×(CK×CT×Unit)):=N9.k n k k1
noncomputable def XA (n:Int) (k:CK) (k1:CT):Option ((Dop.Ae×Unit)×(CK×CT×Unit)):=Aw.k 9 n k k1
theorem W9 (n:Int) (k0:CK) (k1:CT):Wz n k0 k1=
 if (decide (n<(0:Int)))=true then some ((⟨0,-1,-1,-1,-1,[],0,0,0⟩,()),(k0,(k1,())))
 else if (decide (I k0.t.nodes.length<=n))=true then some ((⟨0,-1,-1,-1,-1,[],0,0,0⟩,()),(k0,(k1,())))
  else if (decide ((0:Int)<=n/\n<I k0.t.nodes.length))=true then some ((@List.getD Dop.AZ k0.t.nodes n.toNat Dop.d5,()),(k0,(k1,()))) else none:=by kernel_rfl
theorem UA (n:Int) (k0:CK) (k1:CT):XA n k0 k1=
 if (decide (k0.e=(0:Int)))=true then
  (Wz n k0 k1).bind fun y3=>some ((⟨-1,1,0,0,false⟩,()),((CK.FX (CK.Y8 y3.snd.fst 9) (y3.fst.fst.at_)),(y3.snd.snd.fst,())))
 else some ((⟨-1,1,0,0,false⟩,()),(k0,(k1,()))):=by kernel_rfl
theorem Qu (n:Int) (k0:CK) (k1:CT): ∃ x,Wz n k0 k1=some ((x,()),(k0,(k1,())))/\x.at_=Lh k0 n:=by
 rw [W9]
 unfold Lh
 by_cases h:n<0
 ·rw [if_pos (by simpa using h),if_pos h];exact ⟨_,rfl,rfl⟩
 ·rw [if_neg (by simpa using h),if_neg h]
  by_cases h2:I k0.t.nodes.length<=n
  ·rw [if_pos (by simpa using h2),if_pos h2];exact ⟨_,rfl,rfl⟩
  ·rw [if_neg (by simpa using h2),if_neg h2,if_pos (by simp;omega)];exact ⟨_,rfl,rfl⟩
theorem VZ (f f':Int) (k0:CK) (k1:CT) (h:Lh k0 f=Lh k0 f'):XA f k0 k1=XA f' k0 k1:=by
 obtain ⟨x,h1,h2⟩:=Qu f k0 k1
 obtain ⟨x',h1',h2'⟩:=Qu f' k0 k1
 rw [UA,UA,h1,h1']
 simp only [Option.bind_some,h2,h2',h]
theorem VY (t6:List Int) (t15 f:Int) (k:CK) (k1:CT):(Nv EA.KE 3000 UB XJ EA.WL.sp [0,6,15,16] [0,6,15] 2 (((),t6,t15,f,()),(k,k1,()))).eval (fun _ _=>none)=
  (XA f k k1).bind fun y=>some (((),t6,t15,()),(y.2.1,(y.2.2.1,()))):=by kernel_rfl
theorem S1:(EA.KE).Ok prog:=(FP AH (Ao Cj.Ie (Ao Gf.Kh (Ao N9.Kh (Ao Aw.Kh (Ao IY.Kh (Ao Fe.Kh (Ao EK.Kh (Ao Ba.Kh (Ao B3.Kh (Ao Bg.Ie (Ao Ab.Kh Br))))))))))) EA.ok).1
noncomputable def iZ:Jump EA.KE:=⟨24,32,EA.Yq,EA.WL,by kernel_rfl,by kernel_rfl,lR XA⟩
theorem Zw:iZ.Ok prog:=by
 intro Q w0 F D0 β0 M x y hkp _ hg hv
 obtain ⟨⟨⟨⟩,t6,t15,⟨⟩⟩,k,k1,⟨⟩⟩:=x
 exact Z3 S1 VZ VY t6 t15 k k1 y hkp hg hv
end Go.Proofs.Tryz
set_option maxHeartbeats 4000000
namespace Go.Proofs.Tryz
open Go Go.En
noncomputable section
abbrev UY.T:Type:=List Int->List Int->Int->Int->CK->CT->Dop.AZ->SH CK CT
abbrev P7.T:Type:=List Int->Int->CK->CT->SH CK CT
abbrev P8.T:Type:=List Int->Int->CK->CT->SH CK CT
abbrev EA.KT:Type:=UY.T×P7.T×P8.T×Unit
def UY.kB (tK:EA.KT):UY.T:=fun t6 t89 t90 t91 k0 k1 b2=>
 let A1:=List.getD t89 t91.toNat 0
 ci (t91<t90) (ck (0<=t91/\t91<I t89.length)<|
 ck (t91.toNat<t89.length)<|
 (N9.k A1 k0 k1).bind fun y3=>
 ck (0<=t91/\t91<I ((AM (CK.sigs y3.2.1) b2.text).getD Dop.d15).params.length)<|
 ci ((AM (CK.taken y3.2.1) y3.1.1.text).getD (0:Int)=0) (ck ((0:Int)<=1/\1<I (CK.names y3.2.1).length)<|
 ck (Int.toNat 1<(CK.names y3.2.1).length)<|
 ck (Int.toNat 1<(CK.names y3.2.1).length)<|
 ci ((AM (List.getD (CK.names y3.2.1) (Int.toNat 1) (([]:List (List UInt8×Dop.CD)))) y3.1.1.text).isSome) ((Aw.k 7 A1 y3.2.1 y3.2.2.1).bind fun y6=>
 ck ((0:Int)<=1/\1<I (CK.names y6.2.1).length)<|
 ck (Int.toNat 1<(CK.names y6.2.1).length)<|
 ck (Int.toNat 1<(CK.names y6.2.1).length)<|
 ck (BD (t91+1))<|
 tK.1 t6 t89 t90 (t91+1) ((CK.CV y6.2.1 ((CK.names y6.2.1).set (Int.toNat 1) (B4 (List.getD (CK.names y6.2.1) (Int.toNat 1) (([]:List (List UInt8×Dop.CD)))) y3.1.1.text (Dop.CD.mk 2 t91 (List.getD ((AM (CK.sigs y3.2.1) b2.text).getD Dop.d15).params t91.toNat 0)))))) y6.2.2.1 b2)<|
 ck ((0:Int)<=1/\1<I (CK.names y3.2.1).length)<|
 ck (Int.toNat 1<(CK.names y3.2.1).length)<|
 ck (Int.toNat 1<(CK.names y3.2.1).length)<|
 ck (BD (t91+1))<|
 tK.1 t6 t89 t90 (t91+1) ((CK.CV y3.2.1 ((CK.names y3.2.1).set (Int.toNat 1) (B4 (List.getD (CK.names y3.2.1) (Int.toNat 1) (([]:List (List UInt8×Dop.CD)))) y3.1.1.text (Dop.CD.mk 2 t91 (List.getD ((AM (CK.sigs y3.2.1) b2.text).getD Dop.d15).params t91.toNat 0)))))) y3.2.2.1 b2)<|
 (IY.k y3.1.1.text (List.getD ((AM (CK.sigs y3.2.1) b2.text).getD Dop.d15).params t91.toNat 0) A1 true y3.2.1 y3.2.2.1).bind fun y5=>
 ci y5.1.2.1 ((Fe.k y5.1.1 y5.2.1 y5.2.2.1).bind fun y7=>
 (EK.k t91 y7.2.1 y7.2.2.1).bind fun y8=>
 (Ba.k 5 y7.1.1 y8.1.1 ((-1)) 0 [] y8.2.1 y8.2.2.1).bind fun y9=>
 (B3.k 30 y9.1.1 ((-1)) ((-1)) ((-1)) 0 [] y9.2.1 y9.2.2.1).bind fun y10=>
 ck (DK none (room 8 (t6.length+(y10.1.1::[]).length)))<|
 ck (BD (t91+1))<|
 tK.1 (t6++y10.1.1::[]) t89 t90 (t91+1) y10.2.1 y10.2.2.1 b2)<|
 ck (BD (t91+1))<|
 tK.1 t6 t89 t90 (t91+1) y5.2.1 y5.2.2.1 b2)<|
 (Bg.k b2.b k0 k1).bind fun y3=>
 ck ((0:Int)<=1/\1<=I (CK.names y3.2.1).length)<|
 tK.2.1 t6 y3.1.1 ((CK.CV y3.2.1 (List.take (Int.toNat 1) (CK.names y3.2.1)))) y3.2.2.1
def P7.kB (tK:EA.KT):P7.T:=fun t6 t15 k0 k1=>
 (lR (Aw.k 9) (((),t6,t15,()),(k0,k1,()))).bind fun y=>tK.2.2.1 y.1.2.1 y.1.2.2.1 y.2.1 y.2.2.1
def P8.kB (tK:EA.KT):P8.T:=fun t6 t15 k0 k1=>
 ck (DK none (room 8 (t6.length+(t15::[]).length)))<|
 (Ab.k (t6++t15::[]) k0 k1).bind fun y2=>
 (B3.k 43 y2.1.1 ((-1)) ((-1)) ((-1)) 0 [] y2.2.1 y2.2.2.1).bind fun y3=>
 ck (DK none (room 48 ((CK.funcs y3.2.1).length+(Dop.Dc.mk (CK.f y3.2.1).name (CK.f y3.2.1).params (CK.f y3.2.1).Al (CK.f y3.2.1).frame y3.1.1::[]).length)))<|
 hZ (CK.Y9 (CK.J7 y3.2.1 (CK.funcs y3.2.1++Dop.Dc.mk (CK.f y3.2.1).name (CK.f y3.2.1).params (CK.f y3.2.1).Al (CK.f y3.2.1).frame y3.1.1::[])) (Dop.Dc.mk (CK.f y3.2.1).name (CK.f y3.2.1).params (CK.f y3.2.1).Al (CK.f y3.2.1).frame y3.1.1)) y3.2.2.1
def EA.kS (tK:EA.KT):EA.KT:=(UY.kB tK,P7.kB tK,P8.kB tK,())
def EA.kL (n:Nat):EA.KT:=C5 EA.kS n
def EA.k0 (tK:EA.KT) (t1:Dop.AZ) (t2:Int) (k0:CH) (k1:CT):SH CK CT:=
 (Cj.k t2 ((k0.t,(),k0.num,k0.funcs,k0.globals,k0.top,k0.nodes,k0.names,k0.sigs,([]:List (List UInt8×Int)),Dop.Dc.mk t1.text 0 0 0 0,((AM k0.sigs t1.text).getD Dop.d15).DI,([]:List (List UInt8×Int)),([]:List (List UInt8×Int)),k0.loops,k0.MH,k0.LP,k0.e,k0.when,())) k1).bind fun y2=>
 ck (room 8 ((CK.names y2.2.1).length+1))<|
 (Gf.k (CK.t y2.2.1) t1.a).bind fun y3=>
 tK.1 [] y3.1.1 (I y3.1.1.length) 0 ((CK.Y9 (CK.CV y2.2.1 (CK.names y2.2.1++([]:List (List UInt8×Dop.CD))::[])) (Dop.Dc.mk (CK.f y2.2.1).name (I ((AM (CK.sigs y2.2.1) t1.text).getD Dop.d15).params.length) (I ((AM (CK.sigs y2.2.1) t1.text).getD Dop.d15).params.length) (CK.f y2.2.1).frame (CK.f y2.2.1).body))) y2.2.2.1 t1
def EA.k (t1:Dop.AZ) (t2:Int) (k0:CH) (k1:CT):SH CK CT:=EA.k0 (EA.kL 1000000) t1 t2 k0 k1
def EA.Kc:=kd 21 EA.p fun x=>EA.k x.1.2.1 x.1.2.2.1 x.2.1 x.2.2.1
theorem EA.Kh:EA.Kc.Holds prog:=nc AH (hc Cj.Ie (hc Gf.Kh (hc N9.Kh (hc Aw.Kh (hc IY.Kh (hc Fe.Kh (hc EK.Kh (hc Ba.Kh (hc B3.Kh (hc Bg.Ie (hc Ab.Kh hn))))))))))) EA.ok iZ Zw (fun t x=>EA.k0 t x.1.2.1 x.1.2.2.1 x.2.1 x.2.2.1) (fun c=>(fun t6 t89 t90 t91 k0 k1 b2=>c 9 EA.q9 rfl (((),(),t6,t89,t90,t91,()),(k0,k1,(b2,()),())),fun t6 t15 k0 k1=>c 24 EA.Yq rfl (((),t6,t15,()),(k0,k1,())),fun t6 t15 k0 k1=>c 32 EA.WL rfl (((),t6,t15,()),(k0,k1,())),())) EA.kS (by kernel_rfl)
end
noncomputable section
abbrev UW.T:Type:=Int->CT->R1 Unit CT
abbrev KL.KT:Type:=UW.T×Unit
def UW.kB (tK:KL.KT):UW.T:=fun k k0=>
 ci (k<=3) (ck (DK none (room 40 (k0.l.length+(Dop.HC.mk k 0 0 []::[]).length)))<|
 ck (BD (k+1))<|
 tK.1 (k+1) ((CT.nP k0 (k0.l++Dop.HC.mk k 0 0 []::[]))))<|
 Cn () k0
def KL.kS (tK:KL.KT):KL.KT:=(UW.kB tK,())
def KL.kL (n:Nat):KL.KT:=C5 KL.kS n
def KL.k0 (tK:KL.KT) :R1 Unit CT:=
 tK.1 0 (([],([]:List (List UInt8×List Dop.WO)),()))
def KL.k :R1 Unit CT:=KL.k0 (KL.kL 1000000)
def KL.Kc:=kd 15 KL.p fun x=>KL.k
theorem KL.Kh:KL.Kc.Holds prog:=GB AH hn KL.ok (fun t x=>KL.k0 t) (fun c=>(fun k k0=>c 3 KL.q3 rfl (((),k,()),(k0,())),())) KL.kS (by kernel_rfl)
abbrev UT.T:Type:=Int->Int->List Int->List Dop.Dc->List Dop.ML->Int->List Dop.AZ->CH->CT->O6 Dop.JM Int Int
abbrev P3.T:Type:=List Int->Int->Int->List Dop.Dc->List Dop.ML->Int->List Dop.AZ->CH->CT->O6 Dop.JM Int Int
abbrev P4.T:Type:=List Dop.Dc->List Dop.ML->Int->List Dop.AZ->CH->CT->O6 Dop.JM Int Int
abbrev HS.KT:Type:=UT.T×P3.T×P4.T×Unit
def UT.kB (tK:HS.KT):UT.T:=fun t31 t32 b0 b1_0 b1_1 b1_2 b1_3 k2 k3=>
 let A1:=List.getD b0 t32.toNat 0
 ci (t32<t31) (ck (0<=t32/\t32<I b0.length)<|
 ck (t32.toNat<b0.length)<|
 (HP.k A1 k2 k3).bind fun y3=>
 ci (y3.1.1.kind=53) ((Hq.k y3.1.1 A1 y3.2.1 y3.2.2.1).bind fun y5=>
 ck (BD (t32+1))<|
 tK.1 t31 (t32+1) b0 b1_0 b1_1 b1_2 b1_3 y5.2.1 y5.2.2.1)<|
 ci (y3.1.1.kind=52) ((Hr.k y3.1.1 A1 y3.2.1 y3.2.2.1).bind fun y6=>
 ck (BD (t32+1))<|
 tK.1 t31 (t32+1) b0 b1_0 b1_1 b1_2 b1_3 y6.2.1 y6.2.2.1)<|
 ci (y3.1.1.kind=50) ((Da.k y3.1.1 A1 y3.2.1 y3.2.2.1).bind fun y7=>
 ck (BD (t32+1))<|
 tK.1 t31 (t32+1) b0 b1_0 b1_1 b1_2 b1_3 y7.2.1 y7.2.2.1)<|
 ck (BD (t32+1))<|
 tK.1 t31 (t32+1) b0 b1_0 b1_1 b1_2 b1_3 y3.2.1 y3.2.2.1)<|
 tK.2.1 b0 (I b0.length) 0 b1_0 b1_1 b1_2 b1_3 k2 k3
def P3.kB (tK:HS.KT):P3.T:=fun t60 t61 t62 b0_0 b0_1 b0_2 b0_3 k1 k2=>
 let A2:=List.getD t60 t62.toNat 0
 let A1:=tK.2.2.1 b0_0 b0_1 b0_2 b0_3 ((CH.FX (CH.Y8 k1 10) 0)) k2
 ci (t62<t61) (ck (0<=t62/\t62<I t60.length)<|
 ck (t62.toNat<t60.length)<|
 (HP.k A2 k1 k2).bind fun y3=>
 ci (y3.1.1.kind=50) (ci (CH.e y3.2.1=0) ((EA.k y3.1.1 A2 y3.2.1 y3.2.2.1).bind fun y6=>
 ck (BD (t62+1))<|
 tK.2.1 t60 t61 (t62+1) b0_0 b0_1 b0_2 b0_3 ((y6.2.1.1,(),y6.2.1.2.2.1,y6.2.1.2.2.2.1,y6.2.1.2.2.2.2.1,y6.2.1.2.2.2.2.2.1,y6.2.1.2.2.2.2.2.2.1,y6.2.1.2.2.2.2.2.2.2.1,y6.2.1.2.2.2.2.2.2.2.2.1,(),y6.2.1.2.2.2.2.2.2.2.2.2.2.1,y6.2.1.2.2.2.2.2.2.2.2.2.2.2.1,(),(),y6.2.1.2.2.2.2.2.2.2.2.2.2.2.2.2.2.1,y6.2.1.2.2.2.2.2.2.2.2.2.2.2.2.2.2.2.1,y6.2.1.2.2.2.2.2.2.2.2.2.2.2.2.2.2.2.2.1,y6.2.1.2.2.2.2.2.2.2.2.2.2.2.2.2.2.2.2.2.1,y6.2.1.2.2.2.2.2.2.2.2.2.2.2.2.2.2.2.2.2.2.1,())) y6.2.2.1)<|
 ck (BD (t62+1))<|
 tK.2.1 t60 t61 (t62+1) b0_0 b0_1 b0_2 b0_3 y3.2.1 y3.2.2.1)<|
 ck (BD (t62+1))<|
 tK.2.1 t60 t61 (t62+1) b0_0 b0_1 b0_2 b0_3 y3.2.1 y3.2.2.1)<|
 ci (k1.e=0) (ci (!(AM k1.sigs ([109,97,105,110]:List UInt8)).isSome) A1<|
 ci (0<I ((AM k1.sigs ([109,97,105,110]:List UInt8)).getD Dop.d15).params.length) A1<|
 ci (!(((AM k1.sigs ([109,97,105,110]:List UInt8)).getD Dop.d15).DI=1)) A1<|
 tK.2.2.1 b0_0 b0_1 b0_2 b0_3 k1 k2)<|
 tK.2.2.1 b0_0 b0_1 b0_2 b0_3 k1 k2
def P4.kB (tK:HS.KT):P4.T:=fun b0_0 b0_1 b0_2 b0_3 k1 k2=>
 ci (!(k1.e=0)) (Rh (Dop.JM.mk [] [] 0 []) k1.when k1.e)<|
 Rh (Dop.JM.mk k1.funcs k1.globals k1.top k1.nodes) 0 0
def HS.kS (tK:HS.KT):HS.KT:=(UT.kB tK,P3.kB tK,P4.kB tK,())
def HS.kL (n:Nat):HS.KT:=C5 HS.kS n
def HS.k0 (tK:HS.KT) (o:Dop.HA):O6 Dop.JM Int Int:=
 (KL.k).bind fun y2=>
 (Gf.k o o.top).bind fun y3=>
 tK.1 (I y3.1.1.length) 0 y3.1.1 [] [] 0 [] ((o,(),[],[],[],1,[],([]:List (List UInt8×Dop.CD))::[],([]:List (List UInt8×Dop.N8)),(),Dop.Dc.mk [] 0 0 0 0,0,(),(),0,[],0,0,0,())) y2.2.1
def HS.k (o:Dop.HA):O6 Dop.JM Int Int:=HS.k0 (HS.kL 1000000) o
def HS.Kc:=kd 9 HS.p fun x=>HS.k x.1.1
theorem HS.Kh:HS.Kc.Holds prog:=GB AH (hc KL.Kh (hc Gf.Kh (hc HP.Kh (hc Hq.Kh (hc Hr.Kh (hc Da.Kh (hc EA.Kh hn))))))) HS.ok (fun t x=>HS.k0 t x.1.1) (fun c=>(fun t31 t32 b0 b1_0 b1_1 b1_2 b1_3 k2 k3=>c 5 HS.q5 rfl (((),(),(),(),t31,t32,()),((b0,()),(b1_0,b1_1,b1_2,b1_3,()),k2,k3,())),fun t60 t61 t62 b0_0 b0_1 b0_2 b0_3 k1 k2=>c 17 HS.nD rfl (((),(),t60,t61,t62,()),((b0_0,b0_1,b0_2,b0_3,()),k1,k2,())),fun b0_0 b0_1 b0_2 b0_3 k1 k2=>c 26 HS.nF rfl (((),(),()),((b0_0,b0_1,b0_2,b0_3,()),k1,k2,())),())) HS.kS (by kernel_rfl)
def m18.k (s:List UInt8):O6 Dop.JM Int Int:=
 (YF.k s).bind fun y2=>
 ci (!(y2.1.2.2.1=0)) (Rh (Dop.JM.mk [] [] 0 []) y2.1.2.1 y2.1.2.2.1)<|
 (HS.k y2.1.1).bind nB
def m18.Kc:=kd 6 m18.p fun x=>m18.k x.1.1
theorem m18.Kh:m18.Kc.Holds prog:=kh AH (hc YF.Kh (hc HS.Kh hn)) m18.ok (by kernel_rfl)
end
end Go.Proofs.Tryz
