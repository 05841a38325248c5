/- core.function's jump, with contracts that the kernel can run. -/
import Derived.Test.YtkpggdcpaeanaaaGreatDoorTwM
import Derived.Test.YtkpggdcpaeanaaaGreatDoorMp
import Derived.Test.YtkpggdcpaeanaaaGreatDoorMo
set_option linter.all false
set_option maxRecDepth 100000
namespace Go.Proofs.Tryz
open Go Go.En Go.RowKit
noncomputable def Dh.KE:Env Dop.D4:=Ae prog 78 tb [Cb.Lv,GG.Kc,NZ.Kc,A4.Kc,GX.Kc,GY.Kc,FL.Kc,BO.Kc,CU.Kc,BV.Lv,Aa.Kc] Dh.p
noncomputable def V0 (n:Int) (k:CK) (k1:CT):Option ((Dop.AU×Unit)×(CK×CT×Unit)):=NZ.k n k k1
noncomputable def V2 (n:Int) (k:CK) (k1:CT):Option ((Dop.CE×Unit)×(CK×CT×Unit)):=A4.k 9 n k k1
theorem V1 (n:Int) (k0:CK) (k1:CT):V0 n k0 k1=
 if (decide (n<(0:Int)))=true then some ((⟨0,-1,-1,-1,-1,[],0,0,0⟩,()),(k0,(k1,())))
 else if (decide (I k0.t.nodes.length<=n))=true then some ((⟨0,-1,-1,-1,-1,[],0,0,0⟩,()),(k0,(k1,())))
  else if (decide ((0:Int)<=n/\n<I k0.t.nodes.length))=true then some ((@List.getD Dop.AU k0.t.nodes n.toNat Dop.d5,()),(k0,(k1,()))) else none:=by kernel_rfl
theorem TT (n:Int) (k0:CK) (k1:CT):V2 n k0 k1=
 if (decide (k0.e=(0:Int)))=true then
  (V0 n k0 k1).bind fun y3=>some ((⟨-1,1,0,0,false⟩,()),((CK.FE (CK.X5 y3.snd.fst 9) (y3.fst.fst.at_)),(y3.snd.snd.fst,())))
 else some ((⟨-1,1,0,0,false⟩,()),(k0,(k1,()))):=by kernel_rfl
theorem QJ (n:Int) (k0:CK) (k1:CT): ∃ x,V0 n k0 k1=some ((x,()),(k0,(k1,())))/\x.at_=K8 k0 n:=by
 rw [V1]
 unfold K8
 by_cases h:n<0
 ·rw [if_pos (by simpa using h),if_pos h];exact ⟨_,rfl,rfl⟩
 ·rw [if_neg (by simpa using h),if_neg h]
  by_cases h2:I k0.t.nodes.length<=n
  ·rw [if_pos (by simpa using h2),if_pos h2];exact ⟨_,rfl,rfl⟩
  ·rw [if_neg (by simpa using h2),if_neg h2,if_pos (by simp;omega)];exact ⟨_,rfl,rfl⟩
theorem UX (f f':Int) (k0:CK) (k1:CT) (h:K8 k0 f=K8 k0 f'):V2 f k0 k1=V2 f' k0 k1:=by
 obtain ⟨x,h1,h2⟩:=QJ f k0 k1
 obtain ⟨x',h1',h2'⟩:=QJ f' k0 k1
 rw [TT,TT,h1,h1']
 simp only [Option.bind_some,h2,h2',h]
theorem UW (t6:List Int) (t15 f:Int) (k:CK) (k1:CT):(NK Dh.KE 3000 TU WA Dh.VI.sp [0,6,15,16] [0,6,15] 2 (((),t6,t15,f,()),(k,k1,()))).eval (fun _ _=>none)=
  (V2 f k k1).bind fun y=>some (((),t6,t15,()),(y.2.1,(y.2.2.1,()))):=by kernel_rfl
theorem SG:(Dh.KE).Ok prog:=(GO AH (Az Cb.ID (Az GG.Kh (Az NZ.Kh (Az A4.Kh (Az GX.Kh (Az GY.Kh (Az FL.Kh (Az BO.Kh (Az CU.Kh (Az BV.ID (Az Aa.Kh B7))))))))))) Dh.ok).1
noncomputable def fS:Jump Dh.KE:=⟨24,32,Dh.Xq,Dh.VI,by kernel_rfl,by kernel_rfl,ir V2⟩
theorem Yt:fS.Ok prog:=by
 intro Q w0 F D0 β0 M x y hkp _ hg hv
 obtain ⟨⟨⟨⟩,t6,t15,⟨⟩⟩,k,k1,⟨⟩⟩:=x
 exact Y0 SG UX UW t6 t15 k k1 y hkp hg hv
end Go.Proofs.Tryz
/- Functions in plain words (what their equations say), and their contracts. Written by a program. -/
set_option maxRecDepth 100000
set_option maxHeartbeats 4000000
namespace Go.Proofs.Tryz
open Go Go.En
noncomputable section
abbrev Tn.T:Type:=List Int->List Int->Int->Int->CK->CT->Dop.AU->OV CK CT
abbrev PX.T:Type:=List Int->Int->CK->CT->OV CK CT
abbrev PY.T:Type:=List Int->Int->CK->CT->OV CK CT
abbrev Dh.KT:Type:=Tn.T×PX.T×PY.T×Unit
def Tn.kB (tK:Dh.KT):Tn.T:=fun t6 t89 t90 t91 k0 k1 b2=>
 let A1:=List.getD t89 t91.toNat 0
 ci (t91<t90) (ck (0<=t91/\t91<I t89.length)<|
 ck (t91.toNat<t89.length)<|
 (NZ.k A1 k0 k1).bind fun y3=>
 ck (0<=t91/\t91<I ((AP (CK.sigs y3.2.1) b2.text).getD Dop.d15).params.length)<|
 ci ((AP (CK.taken y3.2.1) y3.1.1.text).getD (0:Int)=0) (ck ((0:Int)<=1/\1<I (CK.names y3.2.1).length)<|
 ck (Int.toNat 1<(CK.names y3.2.1).length)<|
 ck (Int.toNat 1<(CK.names y3.2.1).length)<|
 ci ((AP (List.getD (CK.names y3.2.1) (Int.toNat 1) (([]:List (List UInt8×Dop.DP)))) y3.1.1.text).isSome) ((A4.k 7 A1 y3.2.1 y3.2.2.1).bind fun y6=>
 ck ((0:Int)<=1/\1<I (CK.names y6.2.1).length)<|
 ck (Int.toNat 1<(CK.names y6.2.1).length)<|
 ck (Int.toNat 1<(CK.names y6.2.1).length)<|
 ck (Au (t91+1))<|
 tK.1 t6 t89 t90 (t91+1) ((CK.Cp y6.2.1 ((CK.names y6.2.1).set (Int.toNat 1) (CY (List.getD (CK.names y6.2.1) (Int.toNat 1) (([]:List (List UInt8×Dop.DP)))) y3.1.1.text (Dop.DP.mk 2 t91 (List.getD ((AP (CK.sigs y3.2.1) b2.text).getD Dop.d15).params t91.toNat 0)))))) y6.2.2.1 b2)<|
 ck ((0:Int)<=1/\1<I (CK.names y3.2.1).length)<|
 ck (Int.toNat 1<(CK.names y3.2.1).length)<|
 ck (Int.toNat 1<(CK.names y3.2.1).length)<|
 ck (Au (t91+1))<|
 tK.1 t6 t89 t90 (t91+1) ((CK.Cp y3.2.1 ((CK.names y3.2.1).set (Int.toNat 1) (CY (List.getD (CK.names y3.2.1) (Int.toNat 1) (([]:List (List UInt8×Dop.DP)))) y3.1.1.text (Dop.DP.mk 2 t91 (List.getD ((AP (CK.sigs y3.2.1) b2.text).getD Dop.d15).params t91.toNat 0)))))) y3.2.2.1 b2)<|
 (GX.k y3.1.1.text (List.getD ((AP (CK.sigs y3.2.1) b2.text).getD Dop.d15).params t91.toNat 0) A1 true y3.2.1 y3.2.2.1).bind fun y5=>
 ci y5.1.2.1 ((GY.k y5.1.1 y5.2.1 y5.2.2.1).bind fun y7=>
 (FL.k t91 y7.2.1 y7.2.2.1).bind fun y8=>
 (BO.k 5 y7.1.1 y8.1.1 ((-1)) 0 [] y8.2.1 y8.2.2.1).bind fun y9=>
 (CU.k 30 y9.1.1 ((-1)) ((-1)) ((-1)) 0 [] y9.2.1 y9.2.2.1).bind fun y10=>
 ck (Cq none (room 8 (t6.length+(y10.1.1::[]).length)))<|
 ck (Au (t91+1))<|
 tK.1 (t6++y10.1.1::[]) t89 t90 (t91+1) y10.2.1 y10.2.2.1 b2)<|
 ck (Au (t91+1))<|
 tK.1 t6 t89 t90 (t91+1) y5.2.1 y5.2.2.1 b2)<|
 (BV.k b2.b k0 k1).bind fun y3=>
 ck ((0:Int)<=1/\1<=I (CK.names y3.2.1).length)<|
 tK.2.1 t6 y3.1.1 ((CK.Cp y3.2.1 (List.take (Int.toNat 1) (CK.names y3.2.1)))) y3.2.2.1
def PX.kB (tK:Dh.KT):PX.T:=fun t6 t15 k0 k1=>
 (ir (A4.k 9) (((),t6,t15,()),(k0,k1,()))).bind fun y=>tK.2.2.1 y.1.2.1 y.1.2.2.1 y.2.1 y.2.2.1
def PY.kB (tK:Dh.KT):PY.T:=fun t6 t15 k0 k1=>
 ck (Cq none (room 8 (t6.length+(t15::[]).length)))<|
 (Aa.k (t6++t15::[]) k0 k1).bind fun y2=>
 (CU.k 43 y2.1.1 ((-1)) ((-1)) ((-1)) 0 [] y2.2.1 y2.2.2.1).bind fun y3=>
 ck (Cq none (room 48 ((CK.funcs y3.2.1).length+(Dop.EY.mk (CK.f y3.2.1).name (CK.f y3.2.1).params (CK.f y3.2.1).Aw (CK.f y3.2.1).frame y3.1.1::[]).length)))<|
 Zm (CK.dO (CK.Jm y3.2.1 (CK.funcs y3.2.1++Dop.EY.mk (CK.f y3.2.1).name (CK.f y3.2.1).params (CK.f y3.2.1).Aw (CK.f y3.2.1).frame y3.1.1::[])) (Dop.EY.mk (CK.f y3.2.1).name (CK.f y3.2.1).params (CK.f y3.2.1).Aw (CK.f y3.2.1).frame y3.1.1)) y3.2.2.1
def Dh.kS (tK:Dh.KT):Dh.KT:=(Tn.kB tK,PX.kB tK,PY.kB tK,())
def Dh.kL (n:Nat):Dh.KT:=DA Dh.kS n
def Dh.k0 (tK:Dh.KT) (t1:Dop.AU) (t2:Int) (k0:CH) (k1:CT):OV CK CT:=
 (Cb.k t2 ((k0.t,(),k0.num,k0.funcs,k0.globals,k0.top,k0.nodes,k0.names,k0.sigs,([]:List (List UInt8×Int)),Dop.EY.mk t1.text 0 0 0 0,((AP k0.sigs t1.text).getD Dop.d15).EV,([]:List (List UInt8×Int)),([]:List (List UInt8×Int)),k0.loops,k0.RD,k0.Px,k0.e,k0.when,())) k1).bind fun y2=>
 ck (room 8 ((CK.names y2.2.1).length+1))<|
 (GG.k (CK.t y2.2.1) t1.a).bind fun y3=>
 tK.1 [] y3.1.1 (I y3.1.1.length) 0 ((CK.dO (CK.Cp y2.2.1 (CK.names y2.2.1++([]:List (List UInt8×Dop.DP))::[])) (Dop.EY.mk (CK.f y2.2.1).name (I ((AP (CK.sigs y2.2.1) t1.text).getD Dop.d15).params.length) (I ((AP (CK.sigs y2.2.1) t1.text).getD Dop.d15).params.length) (CK.f y2.2.1).frame (CK.f y2.2.1).body))) y2.2.2.1 t1
def Dh.k (t1:Dop.AU) (t2:Int) (k0:CH) (k1:CT):OV CK CT:=Dh.k0 (Dh.kL 1000000) t1 t2 k0 k1
def Dh.Kc:=kd 78 Dh.p fun x=>Dh.k x.1.2.1 x.1.2.2.1 x.2.1 x.2.2.1
theorem Dh.Kh:Dh.Kc.Holds prog:=kn AH (hc Cb.ID (hc GG.Kh (hc NZ.Kh (hc A4.Kh (hc GX.Kh (hc GY.Kh (hc FL.Kh (hc BO.Kh (hc CU.Kh (hc BV.ID (hc Aa.Kh hn))))))))))) Dh.ok fS Yt (fun t x=>Dh.k0 t x.1.2.1 x.1.2.2.1 x.2.1 x.2.2.1) (fun c=>(fun t6 t89 t90 t91 k0 k1 b2=>c 9 Dh.q9 rfl (((),(),t6,t89,t90,t91,()),(k0,k1,(b2,()),())),fun t6 t15 k0 k1=>c 24 Dh.Xq rfl (((),t6,t15,()),(k0,k1,())),fun t6 t15 k0 k1=>c 32 Dh.VI rfl (((),t6,t15,()),(k0,k1,())),())) Dh.kS (by kernel_rfl)
end
end Go.Proofs.Tryz
/- Functions in plain words (what their equations say), and their contracts. Written by a program. -/
set_option maxRecDepth 100000
set_option maxHeartbeats 4000000
namespace Go.Proofs.Tryz
open Go Go.En
noncomputable section
abbrev Tl.T:Type:=Int->CT->R1 Unit CT
abbrev Js.KT:Type:=Tl.T×Unit
def Tl.kB (tK:Js.KT):Tl.T:=fun k k0=>
 ci (k<=3) (ck (Cq none (room 40 (k0.l.length+(Dop.G4.mk k 0 0 []::[]).length)))<|
 ck (Au (k+1))<|
 tK.1 (k+1) ((CT.kU k0 (k0.l++Dop.G4.mk k 0 0 []::[]))))<|
 CJ () k0
def Js.kS (tK:Js.KT):Js.KT:=(Tl.kB tK,())
def Js.kL (n:Nat):Js.KT:=DA Js.kS n
def Js.k0 (tK:Js.KT) :R1 Unit CT:=
 tK.1 0 (([],([]:List (List UInt8×List Dop.Pz)),()))
def Js.k :R1 Unit CT:=Js.k0 (Js.kL 1000000)
def Js.Kc:=kd 72 Js.p fun x=>Js.k
theorem Js.Kh:Js.Kc.Holds prog:=GD AH hn Js.ok (fun t x=>Js.k0 t) (fun c=>(fun k k0=>c 3 Js.q3 rfl (((),k,()),(k0,())),())) Js.kS (by kernel_rfl)
abbrev Tj.T:Type:=Int->Int->List Int->List Dop.EY->List Dop.NY->Int->List Dop.AU->CH->CT->OW Dop.I8 Int Int
abbrev PR.T:Type:=List Int->Int->Int->List Dop.EY->List Dop.NY->Int->List Dop.AU->CH->CT->OW Dop.I8 Int Int
abbrev PU.T:Type:=List Dop.EY->List Dop.NY->Int->List Dop.AU->CH->CT->OW Dop.I8 Int Int
abbrev GF.KT:Type:=Tj.T×PR.T×PU.T×Unit
def Tj.kB (tK:GF.KT):Tj.T:=fun t31 t32 b0 b1_0 b1_1 b1_2 b1_3 k2 k3=>
 let A1:=List.getD b0 t32.toNat 0
 ci (t32<t31) (ck (0<=t32/\t32<I b0.length)<|
 ck (t32.toNat<b0.length)<|
 (Gz.k A1 k2 k3).bind fun y3=>
 ci (y3.1.1.kind=53) ((HV.k y3.1.1 A1 y3.2.1 y3.2.2.1).bind fun y5=>
 ck (Au (t32+1))<|
 tK.1 t31 (t32+1) b0 b1_0 b1_1 b1_2 b1_3 y5.2.1 y5.2.2.1)<|
 ci (y3.1.1.kind=52) ((D6.k y3.1.1 A1 y3.2.1 y3.2.2.1).bind fun y6=>
 ck (Au (t32+1))<|
 tK.1 t31 (t32+1) b0 b1_0 b1_1 b1_2 b1_3 y6.2.1 y6.2.2.1)<|
 ci (y3.1.1.kind=50) ((DM.k y3.1.1 A1 y3.2.1 y3.2.2.1).bind fun y7=>
 ck (Au (t32+1))<|
 tK.1 t31 (t32+1) b0 b1_0 b1_1 b1_2 b1_3 y7.2.1 y7.2.2.1)<|
 ck (Au (t32+1))<|
 tK.1 t31 (t32+1) b0 b1_0 b1_1 b1_2 b1_3 y3.2.1 y3.2.2.1)<|
 tK.2.1 b0 (I b0.length) 0 b1_0 b1_1 b1_2 b1_3 k2 k3
def PR.kB (tK:GF.KT):PR.T:=fun t60 t61 t62 b0_0 b0_1 b0_2 b0_3 k1 k2=>
 let A2:=List.getD t60 t62.toNat 0
 let A1:=tK.2.2.1 b0_0 b0_1 b0_2 b0_3 ((CH.FE (CH.X5 k1 10) 0)) k2
 ci (t62<t61) (ck (0<=t62/\t62<I t60.length)<|
 ck (t62.toNat<t60.length)<|
 (Gz.k A2 k1 k2).bind fun y3=>
 ci (y3.1.1.kind=50) (ci (CH.e y3.2.1=0) ((Dh.k y3.1.1 A2 y3.2.1 y3.2.2.1).bind fun y6=>
 ck (Au (t62+1))<|
 tK.2.1 t60 t61 (t62+1) b0_0 b0_1 b0_2 b0_3 ((y6.2.1.1,(),y6.2.1.2.2.1,y6.2.1.2.2.2.1,y6.2.1.2.2.2.2.1,y6.2.1.2.2.2.2.2.1,y6.2.1.2.2.2.2.2.2.1,y6.2.1.2.2.2.2.2.2.2.1,y6.2.1.2.2.2.2.2.2.2.2.1,(),y6.2.1.2.2.2.2.2.2.2.2.2.2.1,y6.2.1.2.2.2.2.2.2.2.2.2.2.2.1,(),(),y6.2.1.2.2.2.2.2.2.2.2.2.2.2.2.2.2.1,y6.2.1.2.2.2.2.2.2.2.2.2.2.2.2.2.2.2.1,y6.2.1.2.2.2.2.2.2.2.2.2.2.2.2.2.2.2.2.1,y6.2.1.2.2.2.2.2.2.2.2.2.2.2.2.2.2.2.2.2.1,y6.2.1.2.2.2.2.2.2.2.2.2.2.2.2.2.2.2.2.2.2.1,())) y6.2.2.1)<|
 ck (Au (t62+1))<|
 tK.2.1 t60 t61 (t62+1) b0_0 b0_1 b0_2 b0_3 y3.2.1 y3.2.2.1)<|
 ck (Au (t62+1))<|
 tK.2.1 t60 t61 (t62+1) b0_0 b0_1 b0_2 b0_3 y3.2.1 y3.2.2.1)<|
 ci (k1.e=0) (ci (!(AP k1.sigs ([109,97,105,110]:List UInt8)).isSome) A1<|
 ci (0<I ((AP k1.sigs ([109,97,105,110]:List UInt8)).getD Dop.d15).params.length) A1<|
 ci (!(((AP k1.sigs ([109,97,105,110]:List UInt8)).getD Dop.d15).EV=1)) A1<|
 tK.2.2.1 b0_0 b0_1 b0_2 b0_3 k1 k2)<|
 tK.2.2.1 b0_0 b0_1 b0_2 b0_3 k1 k2
def PU.kB (tK:GF.KT):PU.T:=fun b0_0 b0_1 b0_2 b0_3 k1 k2=>
 ci (!(k1.e=0)) (Ln (Dop.I8.mk [] [] 0 []) k1.when k1.e)<|
 Ln (Dop.I8.mk k1.funcs k1.globals k1.top k1.nodes) 0 0
def GF.kS (tK:GF.KT):GF.KT:=(Tj.kB tK,PR.kB tK,PU.kB tK,())
def GF.kL (n:Nat):GF.KT:=DA GF.kS n
def GF.k0 (tK:GF.KT) (o:Dop.G3):OW Dop.I8 Int Int:=
 (Js.k).bind fun y2=>
 (GG.k o o.top).bind fun y3=>
 tK.1 (I y3.1.1.length) 0 y3.1.1 [] [] 0 [] ((o,(),[],[],[],1,[],([]:List (List UInt8×Dop.DP))::[],([]:List (List UInt8×Dop.Pw)),(),Dop.EY.mk [] 0 0 0 0,0,(),(),0,[],0,0,0,())) y2.2.1
def GF.k (o:Dop.G3):OW Dop.I8 Int Int:=GF.k0 (GF.kL 1000000) o
def GF.Kc:=kd 42 GF.p fun x=>GF.k x.1.1
theorem GF.Kh:GF.Kc.Holds prog:=GD AH (hc Js.Kh (hc GG.Kh (hc Gz.Kh (hc HV.Kh (hc D6.Kh (hc DM.Kh (hc Dh.Kh hn))))))) GF.ok (fun t x=>GF.k0 t x.1.1) (fun c=>(fun t31 t32 b0 b1_0 b1_1 b1_2 b1_3 k2 k3=>c 5 GF.q5 rfl (((),(),(),(),t31,t32,()),((b0,()),(b1_0,b1_1,b1_2,b1_3,()),k2,k3,())),fun t60 t61 t62 b0_0 b0_1 b0_2 b0_3 k1 k2=>c 17 GF.kE rfl (((),(),t60,t61,t62,()),((b0_0,b0_1,b0_2,b0_3,()),k1,k2,())),fun b0_0 b0_1 b0_2 b0_3 k1 k2=>c 26 GF.kG rfl (((),(),()),((b0_0,b0_1,b0_2,b0_3,()),k1,k2,())),())) GF.kS (by kernel_rfl)
def m18.k (s:List UInt8):OW Dop.I8 Int Int:=
 (Up.k s).bind fun y2=>
 ci (!(y2.1.2.2.1=0)) (Ln (Dop.I8.mk [] [] 0 []) y2.1.2.1 y2.1.2.2.1)<|
 (GF.k y2.1.1).bind kC
def m18.Kc:=kd 18 m18.p fun x=>m18.k x.1.1
theorem m18.Kh:m18.Kc.Holds prog:=kh AH (hc Up.Kh (hc GF.Kh hn)) m18.ok (by kernel_rfl)
end
end Go.Proofs.Tryz
