/- core.function's jump, with contracts that the kernel can run. -/
import Derived.Test.YtmgkedikciddlaaGreatDoorTwM
import Derived.Test.YtmgkedikciddlaaGreatDoorMp
import Derived.Test.YtmgkedikciddlaaGreatDoorMo
set_option linter.all false
set_option maxRecDepth 100000
namespace Go.Proofs.Tryz
open Go Go.En Go.RowKit
noncomputable def EE.KE:Env Dop.D4:=Au prog 30 tb [Cm.LZ,Gq.Kc,OJ.Kc,Az.Kc,Ik.Kc,Fp.Kc,ET.Kc,Bd.Kc,B8.Kc,Bi.LZ,Ae.Kc] EE.p
noncomputable def XL (n:Int) (k:CK) (k1:CT):Option ((Dop.Ab×Unit)×(CK×CT×Unit)):=OJ.k n k k1
noncomputable def XN (n:Int) (k:CK) (k1:CT):Option ((Dop.Ag×Unit)×(CK×CT×Unit)):=Az.k 9 n k k1
theorem XM (n:Int) (k0:CK) (k1:CT):XL n k0 k1=
 if (decide (n<(0:Int)))=true then some ((⟨0,-1,-1,-1,-1,[],0,0,0⟩,()),(k0,(k1,())))
 else if (decide (I k0.t.nodes.length<=n))=true then some ((⟨0,-1,-1,-1,-1,[],0,0,0⟩,()),(k0,(k1,())))
  else if (decide ((0:Int)<=n/\n<I k0.t.nodes.length))=true then some ((@List.getD Dop.Ab k0.t.nodes n.toNat Dop.d5,()),(k0,(k1,()))) else none:=by kernel_rfl
theorem Uf (n:Int) (k0:CK) (k1:CT):XN n k0 k1=
 if (decide (k0.e=(0:Int)))=true then
  (XL n k0 k1).bind fun y3=>some ((⟨-1,1,0,0,false⟩,()),((CK.Fj (CK.ZU y3.snd.fst 9) (y3.fst.fst.at_)),(y3.snd.snd.fst,())))
 else some ((⟨-1,1,0,0,false⟩,()),(k0,(k1,()))):=by kernel_rfl
theorem RE (n:Int) (k0:CK) (k1:CT): ∃ x,XL n k0 k1=some ((x,()),(k0,(k1,())))/\x.at_=Lr k0 n:=by
 rw [XM]
 unfold Lr
 by_cases h:n<0
 ·rw [if_pos (by simpa using h),if_pos h];exact ⟨_,rfl,rfl⟩
 ·rw [if_neg (by simpa using h),if_neg h]
  by_cases h2:I k0.t.nodes.length<=n
  ·rw [if_pos (by simpa using h2),if_pos h2];exact ⟨_,rfl,rfl⟩
  ·rw [if_neg (by simpa using h2),if_neg h2,if_pos (by simp;omega)];exact ⟨_,rfl,rfl⟩
theorem Vk (f f':Int) (k0:CK) (k1:CT) (h:Lr k0 f=Lr k0 f'):XN f k0 k1=XN f' k0 k1:=by
 obtain ⟨x,h1,h2⟩:=RE f k0 k1
 obtain ⟨x',h1',h2'⟩:=RE f' k0 k1
 rw [Uf,Uf,h1,h1']
 simp only [Option.bind_some,h2,h2',h]
theorem Vj (t6:List Int) (t15 f:Int) (k:CK) (k1:CT):(N3 EE.KE 3000 Ug XV EE.WV.sp [0,6,15,16] [0,6,15] 2 (((),t6,t15,f,()),(k,k1,()))).eval (fun _ _=>none)=
  (XN f k k1).bind fun y=>some (((),t6,t15,()),(y.2.1,(y.2.2.1,()))):=by kernel_rfl
theorem TR:(EE.KE).Ok prog:=(Gy AI (BG Cm.Ip (BG Gq.Kh (BG OJ.Kh (BG Az.Kh (BG Ik.Kh (BG Fp.Kh (BG ET.Kh (BG Bd.Kh (BG B8.Kh (BG Bi.Ip (BG Ae.Kh CS))))))))))) EE.ok).1
noncomputable def ix:Jump EE.KE:=⟨24,32,EE.ZD,EE.WV,by kernel_rfl,by kernel_rfl,l0 XN⟩
theorem aB:ix.Ok prog:=by
 intro Q w0 F D0 β0 M x y hkp _ hg hv
 obtain ⟨⟨⟨⟩,t6,t15,⟨⟩⟩,k,k1,⟨⟩⟩:=x
 exact aI TR Vk Vj t6 t15 k k1 y hkp hg hv
end Go.Proofs.Tryz
set_option maxHeartbeats 4000000
namespace Go.Proofs.Tryz
open Go Go.En
noncomputable section
abbrev Uy.T:Type:=List Int->List Int->Int->Int->CK->CT->Dop.Ab->Sd CK CT
abbrev QY.T:Type:=List Int->Int->CK->CT->Sd CK CT
abbrev QZ.T:Type:=List Int->Int->CK->CT->Sd CK CT
abbrev EE.KT:Type:=Uy.T×QY.T×QZ.T×Unit
def Uy.kB (tK:EE.KT):Uy.T:=fun t6 t89 t90 t91 k0 k1 b2=>
 let A1:=List.getD t89 t91.toNat 0
 ci (t91<t90) (ck (0<=t91/\t91<I t89.length)<|
 ck (t91.toNat<t89.length)<|
 (OJ.k A1 k0 k1).bind fun y3=>
 ck (0<=t91/\t91<I ((AO (CK.sigs y3.2.1) b2.text).getD Dop.d15).params.length)<|
 ci ((AO (CK.taken y3.2.1) y3.1.1.text).getD (0:Int)=0) (ck ((0:Int)<=1/\1<I (CK.names y3.2.1).length)<|
 ck (Int.toNat 1<(CK.names y3.2.1).length)<|
 ck (Int.toNat 1<(CK.names y3.2.1).length)<|
 ci ((AO (List.getD (CK.names y3.2.1) (Int.toNat 1) (([]:List (List UInt8×Dop.CI)))) y3.1.1.text).isSome) ((Az.k 7 A1 y3.2.1 y3.2.2.1).bind fun y6=>
 ck ((0:Int)<=1/\1<I (CK.names y6.2.1).length)<|
 ck (Int.toNat 1<(CK.names y6.2.1).length)<|
 ck (Int.toNat 1<(CK.names y6.2.1).length)<|
 ck (BI (t91+1))<|
 tK.1 t6 t89 t90 (t91+1) ((CK.Cc y6.2.1 ((CK.names y6.2.1).set (Int.toNat 1) (B9 (List.getD (CK.names y6.2.1) (Int.toNat 1) (([]:List (List UInt8×Dop.CI)))) y3.1.1.text (Dop.CI.mk 2 t91 (List.getD ((AO (CK.sigs y3.2.1) b2.text).getD Dop.d15).params t91.toNat 0)))))) y6.2.2.1 b2)<|
 ck ((0:Int)<=1/\1<I (CK.names y3.2.1).length)<|
 ck (Int.toNat 1<(CK.names y3.2.1).length)<|
 ck (Int.toNat 1<(CK.names y3.2.1).length)<|
 ck (BI (t91+1))<|
 tK.1 t6 t89 t90 (t91+1) ((CK.Cc y3.2.1 ((CK.names y3.2.1).set (Int.toNat 1) (B9 (List.getD (CK.names y3.2.1) (Int.toNat 1) (([]:List (List UInt8×Dop.CI)))) y3.1.1.text (Dop.CI.mk 2 t91 (List.getD ((AO (CK.sigs y3.2.1) b2.text).getD Dop.d15).params t91.toNat 0)))))) y3.2.2.1 b2)<|
 (Ik.k y3.1.1.text (List.getD ((AO (CK.sigs y3.2.1) b2.text).getD Dop.d15).params t91.toNat 0) A1 true y3.2.1 y3.2.2.1).bind fun y5=>
 ci y5.1.2.1 ((Fp.k y5.1.1 y5.2.1 y5.2.2.1).bind fun y7=>
 (ET.k t91 y7.2.1 y7.2.2.1).bind fun y8=>
 (Bd.k 5 y7.1.1 y8.1.1 ((-1)) 0 [] y8.2.1 y8.2.2.1).bind fun y9=>
 (B8.k 30 y9.1.1 ((-1)) ((-1)) ((-1)) 0 [] y9.2.1 y9.2.2.1).bind fun y10=>
 ck (DG none (room 8 (t6.length+(y10.1.1::[]).length)))<|
 ck (BI (t91+1))<|
 tK.1 (t6++y10.1.1::[]) t89 t90 (t91+1) y10.2.1 y10.2.2.1 b2)<|
 ck (BI (t91+1))<|
 tK.1 t6 t89 t90 (t91+1) y5.2.1 y5.2.2.1 b2)<|
 (Bi.k b2.b k0 k1).bind fun y3=>
 ck ((0:Int)<=1/\1<=I (CK.names y3.2.1).length)<|
 tK.2.1 t6 y3.1.1 ((CK.Cc y3.2.1 (List.take (Int.toNat 1) (CK.names y3.2.1)))) y3.2.2.1
def QY.kB (tK:EE.KT):QY.T:=fun t6 t15 k0 k1=>
 (l0 (Az.k 9) (((),t6,t15,()),(k0,k1,()))).bind fun y=>tK.2.2.1 y.1.2.1 y.1.2.2.1 y.2.1 y.2.2.1
def QZ.kB (tK:EE.KT):QZ.T:=fun t6 t15 k0 k1=>
 ck (DG none (room 8 (t6.length+(t15::[]).length)))<|
 (Ae.k (t6++t15::[]) k0 k1).bind fun y2=>
 (B8.k 43 y2.1.1 ((-1)) ((-1)) ((-1)) 0 [] y2.2.1 y2.2.2.1).bind fun y3=>
 ck (DG none (room 48 ((CK.funcs y3.2.1).length+(Dop.DE.mk (CK.f y3.2.1).name (CK.f y3.2.1).params (CK.f y3.2.1).Ai (CK.f y3.2.1).frame y3.1.1::[]).length)))<|
 iO (CK.ZV (CK.KK y3.2.1 (CK.funcs y3.2.1++Dop.DE.mk (CK.f y3.2.1).name (CK.f y3.2.1).params (CK.f y3.2.1).Ai (CK.f y3.2.1).frame y3.1.1::[])) (Dop.DE.mk (CK.f y3.2.1).name (CK.f y3.2.1).params (CK.f y3.2.1).Ai (CK.f y3.2.1).frame y3.1.1)) y3.2.2.1
def EE.kS (tK:EE.KT):EE.KT:=(Uy.kB tK,QY.kB tK,QZ.kB tK,())
def EE.kL (n:Nat):EE.KT:=Bp EE.kS n
def EE.k0 (tK:EE.KT) (t1:Dop.Ab) (t2:Int) (k0:CH) (k1:CT):Sd CK CT:=
 (Cm.k t2 ((k0.t,(),k0.num,k0.funcs,k0.globals,k0.top,k0.nodes,k0.names,k0.sigs,([]:List (List UInt8×Int)),Dop.DE.mk t1.text 0 0 0 0,((AO k0.sigs t1.text).getD Dop.d15).DR,([]:List (List UInt8×Int)),([]:List (List UInt8×Int)),k0.loops,k0.MR,k0.Jd,k0.e,k0.when,())) k1).bind fun y2=>
 ck (room 8 ((CK.names y2.2.1).length+1))<|
 (Gq.k (CK.t y2.2.1) t1.a).bind fun y3=>
 tK.1 [] y3.1.1 (I y3.1.1.length) 0 ((CK.ZV (CK.Cc y2.2.1 (CK.names y2.2.1++([]:List (List UInt8×Dop.CI))::[])) (Dop.DE.mk (CK.f y2.2.1).name (I ((AO (CK.sigs y2.2.1) t1.text).getD Dop.d15).params.length) (I ((AO (CK.sigs y2.2.1) t1.text).getD Dop.d15).params.length) (CK.f y2.2.1).frame (CK.f y2.2.1).body))) y2.2.2.1 t1
def EE.k (t1:Dop.Ab) (t2:Int) (k0:CH) (k1:CT):Sd CK CT:=EE.k0 (EE.kL 1000000) t1 t2 k0 k1
def EE.Kc:=kd 30 EE.p fun x=>EE.k x.1.2.1 x.1.2.2.1 x.2.1 x.2.2.1
theorem EE.Kh:EE.Kc.Holds prog:=oT AI (hc Cm.Ip (hc Gq.Kh (hc OJ.Kh (hc Az.Kh (hc Ik.Kh (hc Fp.Kh (hc ET.Kh (hc Bd.Kh (hc B8.Kh (hc Bi.Ip (hc Ae.Kh hn))))))))))) EE.ok ix aB (fun t x=>EE.k0 t x.1.2.1 x.1.2.2.1 x.2.1 x.2.2.1) (fun c=>(fun t6 t89 t90 t91 k0 k1 b2=>c 9 EE.q9 rfl (((),(),t6,t89,t90,t91,()),(k0,k1,(b2,()),())),fun t6 t15 k0 k1=>c 24 EE.ZD rfl (((),t6,t15,()),(k0,k1,())),fun t6 t15 k0 k1=>c 32 EE.WV rfl (((),t6,t15,()),(k0,k1,())),())) EE.kS (by kernel_rfl)
end
noncomputable section
abbrev Uw.T:Type:=Int->CT->R1 Unit CT
abbrev KR.KT:Type:=Uw.T×Unit
def Uw.kB (tK:KR.KT):Uw.T:=fun k k0=>
 ci (k<=3) (ck (DG none (room 40 (k0.l.length+(Dop.HM.mk k 0 0 []::[]).length)))<|
 ck (BI (k+1))<|
 tK.1 (k+1) ((CT.oH k0 (k0.l++Dop.HM.mk k 0 0 []::[]))))<|
 Co () k0
def KR.kS (tK:KR.KT):KR.KT:=(Uw.kB tK,())
def KR.kL (n:Nat):KR.KT:=Bp KR.kS n
def KR.k0 (tK:KR.KT) :R1 Unit CT:=
 tK.1 0 (([],([]:List (List UInt8×List Dop.WY)),()))
def KR.k :R1 Unit CT:=KR.k0 (KR.kL 1000000)
def KR.Kc:=kd 24 KR.p fun x=>KR.k
theorem KR.Kh:KR.Kc.Holds prog:=Fx AI hn KR.ok (fun t x=>KR.k0 t) (fun c=>(fun k k0=>c 3 KR.q3 rfl (((),k,()),(k0,())),())) KR.kS (by kernel_rfl)
abbrev Uv.T:Type:=Int->Int->List Int->List Dop.DE->List Dop.MW->Int->List Dop.Ab->CH->CT->PI Dop.Gu Int Int
abbrev QU.T:Type:=List Int->Int->Int->List Dop.DE->List Dop.MW->Int->List Dop.Ab->CH->CT->PI Dop.Gu Int Int
abbrev QV.T:Type:=List Dop.DE->List Dop.MW->Int->List Dop.Ab->CH->CT->PI Dop.Gu Int Int
abbrev HE.KT:Type:=Uv.T×QU.T×QV.T×Unit
def Uv.kB (tK:HE.KT):Uv.T:=fun t31 t32 b0 b1_0 b1_1 b1_2 b1_3 k2 k3=>
 let A1:=List.getD b0 t32.toNat 0
 ci (t32<t31) (ck (0<=t32/\t32<I b0.length)<|
 ck (t32.toNat<b0.length)<|
 (HZ.k A1 k2 k3).bind fun y3=>
 ci (y3.1.1.kind=53) ((H2.k y3.1.1 A1 y3.2.1 y3.2.2.1).bind fun y5=>
 ck (BI (t32+1))<|
 tK.1 t31 (t32+1) b0 b1_0 b1_1 b1_2 b1_3 y5.2.1 y5.2.2.1)<|
 ci (y3.1.1.kind=52) ((H3.k y3.1.1 A1 y3.2.1 y3.2.2.1).bind fun y6=>
 ck (BI (t32+1))<|
 tK.1 t31 (t32+1) b0 b1_0 b1_1 b1_2 b1_3 y6.2.1 y6.2.2.1)<|
 ci (y3.1.1.kind=50) ((Df.k y3.1.1 A1 y3.2.1 y3.2.2.1).bind fun y7=>
 ck (BI (t32+1))<|
 tK.1 t31 (t32+1) b0 b1_0 b1_1 b1_2 b1_3 y7.2.1 y7.2.2.1)<|
 ck (BI (t32+1))<|
 tK.1 t31 (t32+1) b0 b1_0 b1_1 b1_2 b1_3 y3.2.1 y3.2.2.1)<|
 tK.2.1 b0 (I b0.length) 0 b1_0 b1_1 b1_2 b1_3 k2 k3
def QU.kB (tK:HE.KT):QU.T:=fun t60 t61 t62 b0_0 b0_1 b0_2 b0_3 k1 k2=>
 let A2:=List.getD t60 t62.toNat 0
 let A1:=tK.2.2.1 b0_0 b0_1 b0_2 b0_3 ((CH.Fj (CH.ZU k1 10) 0)) k2
 ci (t62<t61) (ck (0<=t62/\t62<I t60.length)<|
 ck (t62.toNat<t60.length)<|
 (HZ.k A2 k1 k2).bind fun y3=>
 ci (y3.1.1.kind=50) (ci (CH.e y3.2.1=0) ((EE.k y3.1.1 A2 y3.2.1 y3.2.2.1).bind fun y6=>
 ck (BI (t62+1))<|
 tK.2.1 t60 t61 (t62+1) b0_0 b0_1 b0_2 b0_3 ((y6.2.1.1,(),y6.2.1.2.2.1,y6.2.1.2.2.2.1,y6.2.1.2.2.2.2.1,y6.2.1.2.2.2.2.2.1,y6.2.1.2.2.2.2.2.2.1,y6.2.1.2.2.2.2.2.2.2.1,y6.2.1.2.2.2.2.2.2.2.2.1,(),y6.2.1.2.2.2.2.2.2.2.2.2.2.1,y6.2.1.2.2.2.2.2.2.2.2.2.2.2.1,(),(),y6.2.1.2.2.2.2.2.2.2.2.2.2.2.2.2.2.1,y6.2.1.2.2.2.2.2.2.2.2.2.2.2.2.2.2.2.1,y6.2.1.2.2.2.2.2.2.2.2.2.2.2.2.2.2.2.2.1,y6.2.1.2.2.2.2.2.2.2.2.2.2.2.2.2.2.2.2.2.1,y6.2.1.2.2.2.2.2.2.2.2.2.2.2.2.2.2.2.2.2.2.1,())) y6.2.2.1)<|
 ck (BI (t62+1))<|
 tK.2.1 t60 t61 (t62+1) b0_0 b0_1 b0_2 b0_3 y3.2.1 y3.2.2.1)<|
 ck (BI (t62+1))<|
 tK.2.1 t60 t61 (t62+1) b0_0 b0_1 b0_2 b0_3 y3.2.1 y3.2.2.1)<|
 ci (k1.e=0) (ci (!(AO k1.sigs ([109,97,105,110]:List UInt8)).isSome) A1<|
 ci (0<I ((AO k1.sigs ([109,97,105,110]:List UInt8)).getD Dop.d15).params.length) A1<|
 ci (!(((AO k1.sigs ([109,97,105,110]:List UInt8)).getD Dop.d15).DR=1)) A1<|
 tK.2.2.1 b0_0 b0_1 b0_2 b0_3 k1 k2)<|
 tK.2.2.1 b0_0 b0_1 b0_2 b0_3 k1 k2
def QV.kB (tK:HE.KT):QV.T:=fun b0_0 b0_1 b0_2 b0_3 k1 k2=>
 ci (!(k1.e=0)) (HJ (Dop.Gu.mk [] [] 0 []) k1.when k1.e)<|
 HJ (Dop.Gu.mk k1.funcs k1.globals k1.top k1.nodes) 0 0
def HE.kS (tK:HE.KT):HE.KT:=(Uv.kB tK,QU.kB tK,QV.kB tK,())
def HE.kL (n:Nat):HE.KT:=Bp HE.kS n
def HE.k0 (tK:HE.KT) (o:Dop.FM):PI Dop.Gu Int Int:=
 (KR.k).bind fun y2=>
 (Gq.k o o.top).bind fun y3=>
 tK.1 (I y3.1.1.length) 0 y3.1.1 [] [] 0 [] ((o,(),[],[],[],1,[],([]:List (List UInt8×Dop.CI))::[],([]:List (List UInt8×Dop.OF)),(),Dop.DE.mk [] 0 0 0 0,0,(),(),0,[],0,0,0,())) y2.2.1
def HE.k (o:Dop.FM):PI Dop.Gu Int Int:=HE.k0 (HE.kL 1000000) o
def HE.Kc:=kd 14 HE.p fun x=>HE.k x.1.1
theorem HE.Kh:HE.Kc.Holds prog:=Fx AI (hc KR.Kh (hc Gq.Kh (hc HZ.Kh (hc H2.Kh (hc H3.Kh (hc Df.Kh (hc EE.Kh hn))))))) HE.ok (fun t x=>HE.k0 t x.1.1) (fun c=>(fun t31 t32 b0 b1_0 b1_1 b1_2 b1_3 k2 k3=>c 5 HE.q5 rfl (((),(),(),(),t31,t32,()),((b0,()),(b1_0,b1_1,b1_2,b1_3,()),k2,k3,())),fun t60 t61 t62 b0_0 b0_1 b0_2 b0_3 k1 k2=>c 17 HE.nx rfl (((),(),t60,t61,t62,()),((b0_0,b0_1,b0_2,b0_3,()),k1,k2,())),fun b0_0 b0_1 b0_2 b0_3 k1 k2=>c 26 HE.nz rfl (((),(),()),((b0_0,b0_1,b0_2,b0_3,()),k1,k2,())),())) HE.kS (by kernel_rfl)
def m18.k (s:List UInt8):PI Dop.Gu Int Int:=
 (V2.k s).bind fun y2=>
 ci (!(y2.1.2.2.1=0)) (HJ (Dop.Gu.mk [] [] 0 []) y2.1.2.1 y2.1.2.2.1)<|
 (HE.k y2.1.1).bind nv
def m18.Kc:=kd 9 m18.p fun x=>m18.k x.1.1
theorem m18.Kh:m18.Kc.Holds prog:=kh AI (hc V2.Kh (hc HE.Kh hn)) m18.ok (by kernel_rfl)
end
end Go.Proofs.Tryz
