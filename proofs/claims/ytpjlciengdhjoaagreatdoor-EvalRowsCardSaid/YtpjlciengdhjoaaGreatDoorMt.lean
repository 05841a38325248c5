/- core.function's jump, with contracts that the kernel can run. -/
import Derived.Test.YtpjlciengdhjoaaGreatDoorTwM
import Derived.Test.YtpjlciengdhjoaaGreatDoorMp
import Derived.Test.YtpjlciengdhjoaaGreatDoorMo
set_option maxRecDepth 100000
namespace Go.Proofs.Tryz
open Go Go.En Go.RowKit
noncomputable def Dw.KE:Env Dop.D4:=AU prog 36 tb [Bz.JE,Gu.Kc,MY.Kc,BB.Kc,HA.Kc,HC.Kc,Fm.Kc,BX.Kc,Cr.Kc,Br.JE,Ai.Kc] Dw.p
noncomputable def Xb (n:Int) (k:CK) (k1:CT):Option ((Dop.AV×Unit)×(CK×CT×Unit)):=MY.k n k k1
noncomputable def Xd (n:Int) (k:CK) (k1:CT):Option ((Dop.BM×Unit)×(CK×CT×Unit)):=BB.k 9 n k k1
theorem Xc (n:Int) (k0:CK) (k1:CT):Xb n k0 k1=
 if (decide (n<(0:Int)))=true then some ((⟨0,-1,-1,-1,-1,[],0,0,0⟩,()),(k0,(k1,())))
 else if (decide (I k0.t.nodes.length<=n))=true then some ((⟨0,-1,-1,-1,-1,[],0,0,0⟩,()),(k0,(k1,())))
  else if (decide ((0:Int)<=n/\n<I k0.t.nodes.length))=true then some ((@List.getD Dop.AV k0.t.nodes n.toNat Dop.d5,()),(k0,(k1,()))) else none:=by kernel_rfl
theorem Uh (n:Int) (k0:CK) (k1:CT):Xd n k0 k1=
 if (decide (k0.e=(0:Int)))=true then
  (Xb n k0 k1).bind fun y3=>some ((⟨-1,1,0,0,false⟩,()),((CK.Fi (CK.Wi y3.snd.fst 9) (y3.fst.fst.at_)),(y3.snd.snd.fst,())))
 else some ((⟨-1,1,0,0,false⟩,()),(k0,(k1,()))):=by kernel_rfl
theorem RG (n:Int) (k0:CK) (k1:CT): ∃ x,Xb n k0 k1=some ((x,()),(k0,(k1,())))/\x.at_=L2 k0 n:=by
 rw [Xc]
 unfold L2
 by_cases h:n<0
 ·rw [if_pos (by simpa using h),if_pos h];exact ⟨_,rfl,rfl⟩
 ·rw [if_neg (by simpa using h),if_neg h]
  by_cases h2:I k0.t.nodes.length<=n
  ·rw [if_pos (by simpa using h2),if_pos h2];exact ⟨_,rfl,rfl⟩
  ·rw [if_neg (by simpa using h2),if_neg h2,if_pos (by simp;omega)];exact ⟨_,rfl,rfl⟩
theorem Vr (f f':Int) (k0:CK) (k1:CT) (h:L2 k0 f=L2 k0 f'):Xd f k0 k1=Xd f' k0 k1:=by
 obtain ⟨x,h1,h2⟩:=RG f k0 k1
 obtain ⟨x',h1',h2'⟩:=RG f' k0 k1
 rw [Uh,Uh,h1,h1']
 simp only [Option.bind_some,h2,h2',h]
theorem Vq (t6:List Int) (t15 f:Int) (k:CK) (k1:CT):(OH Dw.KE 3000 Ui Xl Dw.Wf.sp [0,6,15,16] [0,6,15] 2 (((),t6,t15,f,()),(k,k1,()))).eval (fun _ _=>none)=
  (Xd f k k1).bind fun y=>some (((),t6,t15,()),(y.2.1,(y.2.2.1,()))):=by kernel_rfl
theorem TO:(Dw.KE).Ok prog:=(G1 AJ (AS Bz.Hi (AS Gu.Kh (AS MY.Kh (AS BB.Kh (AS HA.Kh (AS HC.Kh (AS Fm.Kh (AS BX.Kh (AS Cr.Kh (AS Br.Hi (AS Ai.Kh Am))))))))))) Dw.ok).1
noncomputable def jX:Jump Dw.KE:=⟨24,32,Dw.ZH,Dw.Wf,by kernel_rfl,by kernel_rfl,mg Xd⟩
theorem aU:jX.Ok prog:=by
 intro Q w0 F D0 β0 M x y hkp _ hg hv
 obtain ⟨⟨⟨⟩,t6,t15,⟨⟩⟩,k,k1,⟨⟩⟩:=x
 exact ae TO Vr Vq t6 t15 k k1 y hkp hg hv
end Go.Proofs.Tryz
set_option maxHeartbeats 4000000
namespace Go.Proofs.Tryz
open Go Go.En
noncomputable section
abbrev Uz.T:Type:=List Int->List Int->Int->Int->CK->CT->Dop.AV->PZ CK CT
abbrev QR.T:Type:=List Int->Int->CK->CT->PZ CK CT
abbrev QS.T:Type:=List Int->Int->CK->CT->PZ CK CT
abbrev Dw.KT:Type:=Uz.T×QR.T×QS.T×Unit
def Uz.kB (tK:Dw.KT):Uz.T:=fun t6 t89 t90 t91 k0 k1 b2=>
 let A1:=List.getD t89 t91.toNat 0
 ci (t91<t90) (ck (0<=t91/\t91<I t89.length)<|
 ck (t91.toNat<t89.length)<|
 (MY.k A1 k0 k1).bind fun y6=>
 ck (0<=t91/\t91<I ((AT (CK.sigs y6.2.1) b2.text).getD Dop.d15).params.length)<|
 ci ((AT (CK.taken y6.2.1) y6.1.1.text).getD (0:Int)=0) (ck ((0:Int)<=1/\1<I (CK.names y6.2.1).length)<|
 ck (Int.toNat 1<(CK.names y6.2.1).length)<|
 ck (Int.toNat 1<(CK.names y6.2.1).length)<|
 ci ((AT (List.getD (CK.names y6.2.1) (Int.toNat 1) (([]:List (List UInt8×Dop.EB)))) y6.1.1.text).isSome) ((BB.k 7 A1 y6.2.1 y6.2.2.1).bind fun y1=>
 ck ((0:Int)<=1/\1<I (CK.names y1.2.1).length)<|
 ck (Int.toNat 1<(CK.names y1.2.1).length)<|
 ck (Int.toNat 1<(CK.names y1.2.1).length)<|
 ck (Al (t91+1))<|
 tK.1 t6 t89 t90 (t91+1) ((CK.Dl y1.2.1 ((CK.names y1.2.1).set (Int.toNat 1) (Bc (List.getD (CK.names y1.2.1) (Int.toNat 1) (([]:List (List UInt8×Dop.EB)))) y6.1.1.text (Dop.EB.mk 2 t91 (List.getD ((AT (CK.sigs y6.2.1) b2.text).getD Dop.d15).params t91.toNat 0)))))) y1.2.2.1 b2)<|
 ck ((0:Int)<=1/\1<I (CK.names y6.2.1).length)<|
 ck (Int.toNat 1<(CK.names y6.2.1).length)<|
 ck (Int.toNat 1<(CK.names y6.2.1).length)<|
 ck (Al (t91+1))<|
 tK.1 t6 t89 t90 (t91+1) ((CK.Dl y6.2.1 ((CK.names y6.2.1).set (Int.toNat 1) (Bc (List.getD (CK.names y6.2.1) (Int.toNat 1) (([]:List (List UInt8×Dop.EB)))) y6.1.1.text (Dop.EB.mk 2 t91 (List.getD ((AT (CK.sigs y6.2.1) b2.text).getD Dop.d15).params t91.toNat 0)))))) y6.2.2.1 b2)<|
 (HA.k y6.1.1.text (List.getD ((AT (CK.sigs y6.2.1) b2.text).getD Dop.d15).params t91.toNat 0) A1 true y6.2.1 y6.2.2.1).bind fun y5=>
 ci y5.1.2.1 ((HC.k y5.1.1 y5.2.1 y5.2.2.1).bind fun y4=>
 (Fm.k t91 y4.2.1 y4.2.2.1).bind fun y3=>
 (BX.k 5 y4.1.1 y3.1.1 ((-1)) 0 [] y3.2.1 y3.2.2.1).bind fun y2=>
 (Cr.k 30 y2.1.1 ((-1)) ((-1)) ((-1)) 0 [] y2.2.1 y2.2.2.1).bind fun y1=>
 ck (Dc none (room 8 (t6.length+(y1.1.1::[]).length)))<|
 ck (Al (t91+1))<|
 tK.1 (t6++y1.1.1::[]) t89 t90 (t91+1) y1.2.1 y1.2.2.1 b2)<|
 ck (Al (t91+1))<|
 tK.1 t6 t89 t90 (t91+1) y5.2.1 y5.2.2.1 b2)<|
 (Br.k b2.b k0 k1).bind fun y1=>
 ck ((0:Int)<=1/\1<=I (CK.names y1.2.1).length)<|
 tK.2.1 t6 y1.1.1 ((CK.Dl y1.2.1 (List.take (Int.toNat 1) (CK.names y1.2.1)))) y1.2.2.1
def QR.kB (tK:Dw.KT):QR.T:=fun t6 t15 k0 k1=>
 (mg (BB.k 9) (((),t6,t15,()),(k0,k1,()))).bind fun y=>tK.2.2.1 y.1.2.1 y.1.2.2.1 y.2.1 y.2.2.1
def QS.kB (tK:Dw.KT):QS.T:=fun t6 t15 k0 k1=>
 ck (Dc none (room 8 (t6.length+(t15::[]).length)))<|
 (Ai.k (t6++t15::[]) k0 k1).bind fun y2=>
 (Cr.k 43 y2.1.1 ((-1)) ((-1)) ((-1)) 0 [] y2.2.1 y2.2.2.1).bind fun y1=>
 ck (Dc none (room 48 ((CK.funcs y1.2.1).length+(Dop.Ey.mk (CK.f y1.2.1).name (CK.f y1.2.1).params (CK.f y1.2.1).A7 (CK.f y1.2.1).frame y1.1.1::[]).length)))<|
 Wg (CK.gg (CK.KU y1.2.1 (CK.funcs y1.2.1++Dop.Ey.mk (CK.f y1.2.1).name (CK.f y1.2.1).params (CK.f y1.2.1).A7 (CK.f y1.2.1).frame y1.1.1::[])) (Dop.Ey.mk (CK.f y1.2.1).name (CK.f y1.2.1).params (CK.f y1.2.1).A7 (CK.f y1.2.1).frame y1.1.1)) y1.2.2.1
def Dw.kS (tK:Dw.KT):Dw.KT:=(Uz.kB tK,QR.kB tK,QS.kB tK,())
def Dw.kL (n:Nat):Dw.KT:=Bd Dw.kS n
def Dw.k0 (tK:Dw.KT) (t1:Dop.AV) (t2:Int) (k0:CH) (k1:CT):PZ CK CT:=
 (Bz.k t2 ((k0.t,(),k0.num,k0.funcs,k0.globals,k0.top,k0.nodes,k0.names,k0.sigs,([]:List (List UInt8×Int)),Dop.Ey.mk t1.text 0 0 0 0,((AT k0.sigs t1.text).getD Dop.d15).Gm,([]:List (List UInt8×Int)),([]:List (List UInt8×Int)),k0.loops,k0.SM,k0.Qu,k0.e,k0.when,())) k1).bind fun y2=>
 ck (room 8 ((CK.names y2.2.1).length+1))<|
 (Gu.k (CK.t y2.2.1) t1.a).bind fun y1=>
 tK.1 [] y1.1.1 (I y1.1.1.length) 0 ((CK.gg (CK.Dl y2.2.1 (CK.names y2.2.1++([]:List (List UInt8×Dop.EB))::[])) (Dop.Ey.mk (CK.f y2.2.1).name (I ((AT (CK.sigs y2.2.1) t1.text).getD Dop.d15).params.length) (I ((AT (CK.sigs y2.2.1) t1.text).getD Dop.d15).params.length) (CK.f y2.2.1).frame (CK.f y2.2.1).body))) y2.2.2.1 t1
def Dw.k (t1:Dop.AV) (t2:Int) (k0:CH) (k1:CT):PZ CK CT:=Dw.k0 (Dw.kL 1000000) t1 t2 k0 k1
def Dw.Kc:=kd 36 Dw.p fun x=>Dw.k x.1.2.1 x.1.2.2.1 x.2.1 x.2.2.1
theorem Dw.Kh:Dw.Kc.Holds prog:=pw AJ (hc Bz.Hi (hc Gu.Kh (hc MY.Kh (hc BB.Kh (hc HA.Kh (hc HC.Kh (hc Fm.Kh (hc BX.Kh (hc Cr.Kh (hc Br.Hi (hc Ai.Kh hn))))))))))) Dw.ok jX aU (fun t x=>Dw.k0 t x.1.2.1 x.1.2.2.1 x.2.1 x.2.2.1) (fun c=>(fun t6 t89 t90 t91 k0 k1 b2=>c 9 Dw.q9 rfl (((),(),t6,t89,t90,t91,()),(k0,k1,(b2,()),())),fun t6 t15 k0 k1=>c 24 Dw.ZH rfl (((),t6,t15,()),(k0,k1,())),fun t6 t15 k0 k1=>c 32 Dw.Wf rfl (((),t6,t15,()),(k0,k1,())),())) Dw.kS (by kernel_rfl)
end
noncomputable section
abbrev Ux.T:Type:=Int->CT->R1 Unit CT
abbrev Ka.KT:Type:=Ux.T×Unit
def Ux.kB (tK:Ka.KT):Ux.T:=fun k k0=>
 ci (k<=3) (ck (Dc none (room 40 (k0.l.length+(Dop.Fp.mk k 0 0 []::[]).length)))<|
 ck (Al (k+1))<|
 tK.1 (k+1) ((CT.pK k0 (k0.l++Dop.Fp.mk k 0 0 []::[]))))<|
 B7 () k0
def Ka.kS (tK:Ka.KT):Ka.KT:=(Ux.kB tK,())
def Ka.kL (n:Nat):Ka.KT:=Bd Ka.kS n
def Ka.k0 (tK:Ka.KT) :R1 Unit CT:=
 tK.1 0 (([],([]:List (List UInt8×List Dop.Wl)),()))
def Ka.k :R1 Unit CT:=Ka.k0 (Ka.kL 1000000)
def Ka.Kc:=kd 30 Ka.p fun x=>Ka.k
theorem Ka.Kh:Ka.Kc.Holds prog:=GB AJ hn Ka.ok (fun t x=>Ka.k0 t) (fun c=>(fun k k0=>c 3 Ka.q3 rfl (((),k,()),(k0,())),())) Ka.kS (by kernel_rfl)
abbrev Uw.T:Type:=Int->Int->List Int->List Dop.Ey->List Dop.PX->Int->List Dop.AV->CH->CT->Ot Dop.Hm Int Int
abbrev QO.T:Type:=List Int->Int->Int->List Dop.Ey->List Dop.PX->Int->List Dop.AV->CH->CT->Ot Dop.Hm Int Int
abbrev QP.T:Type:=List Dop.Ey->List Dop.PX->Int->List Dop.AV->CH->CT->Ot Dop.Hm Int Int
abbrev Gs.KT:Type:=Uw.T×QO.T×QP.T×Unit
def Uw.kB (tK:Gs.KT):Uw.T:=fun t31 t32 b0 b1_0 b1_1 b1_2 b1_3 k2 k3=>
 let A1:=List.getD b0 t32.toNat 0
 ci (t32<t31) (ck (0<=t32/\t32<I b0.length)<|
 ck (t32.toNat<b0.length)<|
 (Hf.k A1 k2 k3).bind fun y2=>
 ci (y2.1.1.kind=53) ((IB.k y2.1.1 A1 y2.2.1 y2.2.2.1).bind fun y1=>
 ck (Al (t32+1))<|
 tK.1 t31 (t32+1) b0 b1_0 b1_1 b1_2 b1_3 y1.2.1 y1.2.2.1)<|
 ci (y2.1.1.kind=52) ((IC.k y2.1.1 A1 y2.2.1 y2.2.2.1).bind fun y1=>
 ck (Al (t32+1))<|
 tK.1 t31 (t32+1) b0 b1_0 b1_1 b1_2 b1_3 y1.2.1 y1.2.2.1)<|
 ci (y2.1.1.kind=50) ((Dh.k y2.1.1 A1 y2.2.1 y2.2.2.1).bind fun y1=>
 ck (Al (t32+1))<|
 tK.1 t31 (t32+1) b0 b1_0 b1_1 b1_2 b1_3 y1.2.1 y1.2.2.1)<|
 ck (Al (t32+1))<|
 tK.1 t31 (t32+1) b0 b1_0 b1_1 b1_2 b1_3 y2.2.1 y2.2.2.1)<|
 tK.2.1 b0 (I b0.length) 0 b1_0 b1_1 b1_2 b1_3 k2 k3
def QO.kB (tK:Gs.KT):QO.T:=fun t60 t61 t62 b0_0 b0_1 b0_2 b0_3 k1 k2=>
 let A2:=List.getD t60 t62.toNat 0
 let A1:=tK.2.2.1 b0_0 b0_1 b0_2 b0_3 ((CH.Fi (CH.Wi k1 10) 0)) k2
 ci (t62<t61) (ck (0<=t62/\t62<I t60.length)<|
 ck (t62.toNat<t60.length)<|
 (Hf.k A2 k1 k2).bind fun y2=>
 ci (y2.1.1.kind=50) (ci (CH.e y2.2.1=0) ((Dw.k y2.1.1 A2 y2.2.1 y2.2.2.1).bind fun y1=>
 ck (Al (t62+1))<|
 tK.2.1 t60 t61 (t62+1) b0_0 b0_1 b0_2 b0_3 ((y1.2.1.1,(),y1.2.1.2.2.1,y1.2.1.2.2.2.1,y1.2.1.2.2.2.2.1,y1.2.1.2.2.2.2.2.1,y1.2.1.2.2.2.2.2.2.1,y1.2.1.2.2.2.2.2.2.2.1,y1.2.1.2.2.2.2.2.2.2.2.1,(),y1.2.1.2.2.2.2.2.2.2.2.2.2.1,y1.2.1.2.2.2.2.2.2.2.2.2.2.2.1,(),(),y1.2.1.2.2.2.2.2.2.2.2.2.2.2.2.2.2.1,y1.2.1.2.2.2.2.2.2.2.2.2.2.2.2.2.2.2.1,y1.2.1.2.2.2.2.2.2.2.2.2.2.2.2.2.2.2.2.1,y1.2.1.2.2.2.2.2.2.2.2.2.2.2.2.2.2.2.2.2.1,y1.2.1.2.2.2.2.2.2.2.2.2.2.2.2.2.2.2.2.2.2.1,())) y1.2.2.1)<|
 ck (Al (t62+1))<|
 tK.2.1 t60 t61 (t62+1) b0_0 b0_1 b0_2 b0_3 y2.2.1 y2.2.2.1)<|
 ck (Al (t62+1))<|
 tK.2.1 t60 t61 (t62+1) b0_0 b0_1 b0_2 b0_3 y2.2.1 y2.2.2.1)<|
 ci (k1.e=0) (ci (!(AT k1.sigs ([109,97,105,110]:List UInt8)).isSome) A1<|
 ci (0<I ((AT k1.sigs ([109,97,105,110]:List UInt8)).getD Dop.d15).params.length) A1<|
 ci (!(((AT k1.sigs ([109,97,105,110]:List UInt8)).getD Dop.d15).Gm=1)) A1<|
 tK.2.2.1 b0_0 b0_1 b0_2 b0_3 k1 k2)<|
 tK.2.2.1 b0_0 b0_1 b0_2 b0_3 k1 k2
def QP.kB (tK:Gs.KT):QP.T:=fun b0_0 b0_1 b0_2 b0_3 k1 k2=>
 ci (!(k1.e=0)) (Kd (Dop.Hm.mk [] [] 0 []) k1.when k1.e)<|
 Kd (Dop.Hm.mk k1.funcs k1.globals k1.top k1.nodes) 0 0
def Gs.kS (tK:Gs.KT):Gs.KT:=(Uw.kB tK,QO.kB tK,QP.kB tK,())
def Gs.kL (n:Nat):Gs.KT:=Bd Gs.kS n
def Gs.k0 (tK:Gs.KT) (o:Dop.HW):Ot Dop.Hm Int Int:=
 (Ka.k).bind fun y2=>
 (Gu.k o o.top).bind fun y1=>
 tK.1 (I y1.1.1.length) 0 y1.1.1 [] [] 0 [] ((o,(),[],[],[],1,[],([]:List (List UInt8×Dop.EB))::[],([]:List (List UInt8×Dop.Pa)),(),Dop.Ey.mk [] 0 0 0 0,0,(),(),0,[],0,0,0,())) y2.2.1
def Gs.k (o:Dop.HW):Ot Dop.Hm Int Int:=Gs.k0 (Gs.kL 1000000) o
def Gs.Kc:=kd 17 Gs.p fun x=>Gs.k x.1.1
theorem Gs.Kh:Gs.Kc.Holds prog:=GB AJ (hc Ka.Kh (hc Gu.Kh (hc Hf.Kh (hc IB.Kh (hc IC.Kh (hc Dh.Kh (hc Dw.Kh hn))))))) Gs.ok (fun t x=>Gs.k0 t x.1.1) (fun c=>(fun t31 t32 b0 b1_0 b1_1 b1_2 b1_3 k2 k3=>c 5 Gs.q5 rfl (((),(),(),(),t31,t32,()),((b0,()),(b1_0,b1_1,b1_2,b1_3,()),k2,k3,())),fun t60 t61 t62 b0_0 b0_1 b0_2 b0_3 k1 k2=>c 17 Gs.oz rfl (((),(),t60,t61,t62,()),((b0_0,b0_1,b0_2,b0_3,()),k1,k2,())),fun b0_0 b0_1 b0_2 b0_3 k1 k2=>c 26 Gs.o7 rfl (((),(),()),((b0_0,b0_1,b0_2,b0_3,()),k1,k2,())),())) Gs.kS (by kernel_rfl)
def m18.k (s:List UInt8):Ot Dop.Hm Int Int:=
 (V7.k s).bind fun y2=>
 ci (!(y2.1.2.2.1=0)) (Kd (Dop.Hm.mk [] [] 0 []) y2.1.2.1 y2.1.2.2.1)<|
 (Gs.k y2.1.1).bind ox
def m18.Kc:=kd 10 m18.p fun x=>m18.k x.1.1
theorem m18.Kh:m18.Kc.Holds prog:=kh AJ (hc V7.Kh (hc Gs.Kh hn)) m18.ok (by kernel_rfl)
end
end Go.Proofs.Tryz
