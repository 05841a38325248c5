/- core.function's jump, with contracts that the kernel can run. -/
import Derived.Test.YtkpggdcpaeanaaaGreatDoorTwM
import Derived.Test.YtkpggdcpaeanaaaGreatDoorMp
import Derived.Test.YtkpggdcpaeanaaaGreatDoorMo
set_option linter.all false
set_option maxRecDepth 100000
namespace Go.Proofs.Tryz
open Go Go.En Go.RowKit
noncomputable def Dr.KE:Env Dop.D4:=Ac prog 78 tb [Ce.Nn,GX.Kc,Np.Kc,Au.Kc,Fy.Kc,FM.Kc,FY.Kc,BU.Kc,Bn.Kc,Ba.Nn,Aa.Kc] Dr.p
noncomputable def We (n:Int) (k:CK) (k1:CT):Option ((Dop.AU×Unit)×(CK×CT×Unit)):=Np.k n k k1
noncomputable def Wg (n:Int) (k:CK) (k1:CT):Option ((Dop.Ao×Unit)×(CK×CT×Unit)):=Au.k 9 n k k1
theorem Wf (n:Int) (k0:CK) (k1:CT):We n k0 k1=
 if (decide (n<(0:Int)))=true then some ((⟨0,-1,-1,-1,-1,[],0,0,0⟩,()),(k0,(k1,())))
 else if (decide (I k0.t.nodes.length<=n))=true then some ((⟨0,-1,-1,-1,-1,[],0,0,0⟩,()),(k0,(k1,())))
  else if (decide ((0:Int)<=n/\n<I k0.t.nodes.length))=true then some ((@List.getD Dop.AU k0.t.nodes n.toNat Dop.d5,()),(k0,(k1,()))) else none:=by kernel_rfl
theorem Tx (n:Int) (k0:CK) (k1:CT):Wg n k0 k1=
 if (decide (k0.e=(0:Int)))=true then
  (We n k0 k1).bind fun y3=>some ((⟨-1,1,0,0,false⟩,()),((CK.FR (CK.Yj y3.snd.fst 9) (y3.fst.fst.at_)),(y3.snd.snd.fst,())))
 else some ((⟨-1,1,0,0,false⟩,()),(k0,(k1,()))):=by kernel_rfl
theorem Qe (n:Int) (k0:CK) (k1:CT): ∃ x,We n k0 k1=some ((x,()),(k0,(k1,())))/\x.at_=LN k0 n:=by
 rw [Wf]
 unfold LN
 by_cases h:n<0
 ·rw [if_pos (by simpa using h),if_pos h];exact ⟨_,rfl,rfl⟩
 ·rw [if_neg (by simpa using h),if_neg h]
  by_cases h2:I k0.t.nodes.length<=n
  ·rw [if_pos (by simpa using h2),if_pos h2];exact ⟨_,rfl,rfl⟩
  ·rw [if_neg (by simpa using h2),if_neg h2,if_pos (by simp;omega)];exact ⟨_,rfl,rfl⟩
theorem U3 (f f':Int) (k0:CK) (k1:CT) (h:LN k0 f=LN k0 f'):Wg f k0 k1=Wg f' k0 k1:=by
 obtain ⟨x,h1,h2⟩:=Qe f k0 k1
 obtain ⟨x',h1',h2'⟩:=Qe f' k0 k1
 rw [Tx,Tx,h1,h1']
 simp only [Option.bind_some,h2,h2',h]
theorem U2 (t6:List Int) (t15 f:Int) (k:CK) (k1:CT):(NY Dr.KE 3000 Ty Wp Dr.Vo.sp [0,6,15,16] [0,6,15] 2 (((),t6,t15,f,()),(k,k1,()))).eval (fun _ _=>none)=
  (Wg f k k1).bind fun y=>some (((),t6,t15,()),(y.2.1,(y.2.2.1,()))):=by kernel_rfl
theorem Sk:(Dr.KE).Ok prog:=(Gf AH (A7 Ce.IN (A7 GX.Kh (A7 Np.Kh (A7 Au.Kh (A7 Fy.Kh (A7 FM.Kh (A7 FY.Kh (A7 BU.Kh (A7 Bn.Kh (A7 Ba.IN (A7 Aa.Kh CC))))))))))) Dr.ok).1
noncomputable def iD:Jump Dr.KE:=⟨24,32,Dr.YU,Dr.Vo,by kernel_rfl,by kernel_rfl,kW Wg⟩
theorem Zb:iD.Ok prog:=by
 intro Q w0 F D0 β0 M x y hkp _ hg hv
 obtain ⟨⟨⟨⟩,t6,t15,⟨⟩⟩,k,k1,⟨⟩⟩:=x
 exact Zi Sk U3 U2 t6 t15 k k1 y hkp hg hv
end Go.Proofs.Tryz
set_option maxRecDepth 100000
set_option maxHeartbeats 4000000
namespace Go.Proofs.Tryz
open Go Go.En
noncomputable section
abbrev UG.T:Type:=List Int->List Int->Int->Int->CK->CT->Dop.AU->On CK CT
abbrev Pr.T:Type:=List Int->Int->CK->CT->On CK CT
abbrev Pt.T:Type:=List Int->Int->CK->CT->On CK CT
abbrev Dr.KT:Type:=UG.T×Pr.T×Pt.T×Unit
def UG.kB (tK:Dr.KT):UG.T:=fun t6 t89 t90 t91 k0 k1 b2=>
 let A1:=List.getD t89 t91.toNat 0
 ci (t91<t90) (ck (0<=t91/\t91<I t89.length)<|
 ck (t91.toNat<t89.length)<|
 (Np.k A1 k0 k1).bind fun y3=>
 ck (0<=t91/\t91<I ((AN (CK.sigs y3.2.1) b2.text).getD Dop.d15).params.length)<|
 ci ((AN (CK.taken y3.2.1) y3.1.1.text).getD (0:Int)=0) (ck ((0:Int)<=1/\1<I (CK.names y3.2.1).length)<|
 ck (Int.toNat 1<(CK.names y3.2.1).length)<|
 ck (Int.toNat 1<(CK.names y3.2.1).length)<|
 ci ((AN (List.getD (CK.names y3.2.1) (Int.toNat 1) (([]:List (List UInt8×Dop.Da)))) y3.1.1.text).isSome) ((Au.k 7 A1 y3.2.1 y3.2.2.1).bind fun y6=>
 ck ((0:Int)<=1/\1<I (CK.names y6.2.1).length)<|
 ck (Int.toNat 1<(CK.names y6.2.1).length)<|
 ck (Int.toNat 1<(CK.names y6.2.1).length)<|
 ck (Az (t91+1))<|
 tK.1 t6 t89 t90 (t91+1) ((CK.Ct y6.2.1 ((CK.names y6.2.1).set (Int.toNat 1) (Cb (List.getD (CK.names y6.2.1) (Int.toNat 1) (([]:List (List UInt8×Dop.Da)))) y3.1.1.text (Dop.Da.mk 2 t91 (List.getD ((AN (CK.sigs y3.2.1) b2.text).getD Dop.d15).params t91.toNat 0)))))) y6.2.2.1 b2)<|
 ck ((0:Int)<=1/\1<I (CK.names y3.2.1).length)<|
 ck (Int.toNat 1<(CK.names y3.2.1).length)<|
 ck (Int.toNat 1<(CK.names y3.2.1).length)<|
 ck (Az (t91+1))<|
 tK.1 t6 t89 t90 (t91+1) ((CK.Ct y3.2.1 ((CK.names y3.2.1).set (Int.toNat 1) (Cb (List.getD (CK.names y3.2.1) (Int.toNat 1) (([]:List (List UInt8×Dop.Da)))) y3.1.1.text (Dop.Da.mk 2 t91 (List.getD ((AN (CK.sigs y3.2.1) b2.text).getD Dop.d15).params t91.toNat 0)))))) y3.2.2.1 b2)<|
 (Fy.k y3.1.1.text (List.getD ((AN (CK.sigs y3.2.1) b2.text).getD Dop.d15).params t91.toNat 0) A1 true y3.2.1 y3.2.2.1).bind fun y5=>
 ci y5.1.2.1 ((FM.k y5.1.1 y5.2.1 y5.2.2.1).bind fun y7=>
 (FY.k t91 y7.2.1 y7.2.2.1).bind fun y8=>
 (BU.k 5 y7.1.1 y8.1.1 ((-1)) 0 [] y8.2.1 y8.2.2.1).bind fun y9=>
 (Bn.k 30 y9.1.1 ((-1)) ((-1)) ((-1)) 0 [] y9.2.1 y9.2.2.1).bind fun y10=>
 ck (Cu none (room 8 (t6.length+(y10.1.1::[]).length)))<|
 ck (Az (t91+1))<|
 tK.1 (t6++y10.1.1::[]) t89 t90 (t91+1) y10.2.1 y10.2.2.1 b2)<|
 ck (Az (t91+1))<|
 tK.1 t6 t89 t90 (t91+1) y5.2.1 y5.2.2.1 b2)<|
 (Ba.k b2.b k0 k1).bind fun y3=>
 ck ((0:Int)<=1/\1<=I (CK.names y3.2.1).length)<|
 tK.2.1 t6 y3.1.1 ((CK.Ct y3.2.1 (List.take (Int.toNat 1) (CK.names y3.2.1)))) y3.2.2.1
def Pr.kB (tK:Dr.KT):Pr.T:=fun t6 t15 k0 k1=>
 (kW (Au.k 9) (((),t6,t15,()),(k0,k1,()))).bind fun y=>tK.2.2.1 y.1.2.1 y.1.2.2.1 y.2.1 y.2.2.1
def Pt.kB (tK:Dr.KT):Pt.T:=fun t6 t15 k0 k1=>
 ck (Cu none (room 8 (t6.length+(t15::[]).length)))<|
 (Aa.k (t6++t15::[]) k0 k1).bind fun y2=>
 (Bn.k 43 y2.1.1 ((-1)) ((-1)) ((-1)) 0 [] y2.2.1 y2.2.2.1).bind fun y3=>
 ck (Cu none (room 48 ((CK.funcs y3.2.1).length+(Dop.Eh.mk (CK.f y3.2.1).name (CK.f y3.2.1).params (CK.f y3.2.1).An (CK.f y3.2.1).frame y3.1.1::[]).length)))<|
 aT (CK.eT (CK.Jt y3.2.1 (CK.funcs y3.2.1++Dop.Eh.mk (CK.f y3.2.1).name (CK.f y3.2.1).params (CK.f y3.2.1).An (CK.f y3.2.1).frame y3.1.1::[])) (Dop.Eh.mk (CK.f y3.2.1).name (CK.f y3.2.1).params (CK.f y3.2.1).An (CK.f y3.2.1).frame y3.1.1)) y3.2.2.1
def Dr.kS (tK:Dr.KT):Dr.KT:=(UG.kB tK,Pr.kB tK,Pt.kB tK,())
def Dr.kL (n:Nat):Dr.KT:=Cw Dr.kS n
def Dr.k0 (tK:Dr.KT) (t1:Dop.AU) (t2:Int) (k0:CH) (k1:CT):On CK CT:=
 (Ce.k t2 ((k0.t,(),k0.num,k0.funcs,k0.globals,k0.top,k0.nodes,k0.names,k0.sigs,([]:List (List UInt8×Int)),Dop.Eh.mk t1.text 0 0 0 0,((AN k0.sigs t1.text).getD Dop.d15).Fo,([]:List (List UInt8×Int)),([]:List (List UInt8×Int)),k0.loops,k0.Rb,k0.QG,k0.e,k0.when,())) k1).bind fun y2=>
 ck (room 8 ((CK.names y2.2.1).length+1))<|
 (GX.k (CK.t y2.2.1) t1.a).bind fun y3=>
 tK.1 [] y3.1.1 (I y3.1.1.length) 0 ((CK.eT (CK.Ct y2.2.1 (CK.names y2.2.1++([]:List (List UInt8×Dop.Da))::[])) (Dop.Eh.mk (CK.f y2.2.1).name (I ((AN (CK.sigs y2.2.1) t1.text).getD Dop.d15).params.length) (I ((AN (CK.sigs y2.2.1) t1.text).getD Dop.d15).params.length) (CK.f y2.2.1).frame (CK.f y2.2.1).body))) y2.2.2.1 t1
def Dr.k (t1:Dop.AU) (t2:Int) (k0:CH) (k1:CT):On CK CT:=Dr.k0 (Dr.kL 1000000) t1 t2 k0 k1
def Dr.Kc:=kd 78 Dr.p fun x=>Dr.k x.1.2.1 x.1.2.2.1 x.2.1 x.2.2.1
theorem Dr.Kh:Dr.Kc.Holds prog:=mj AH (hc Ce.IN (hc GX.Kh (hc Np.Kh (hc Au.Kh (hc Fy.Kh (hc FM.Kh (hc FY.Kh (hc BU.Kh (hc Bn.Kh (hc Ba.IN (hc Aa.Kh hn))))))))))) Dr.ok iD Zb (fun t x=>Dr.k0 t x.1.2.1 x.1.2.2.1 x.2.1 x.2.2.1) (fun c=>(fun t6 t89 t90 t91 k0 k1 b2=>c 9 Dr.q9 rfl (((),(),t6,t89,t90,t91,()),(k0,k1,(b2,()),())),fun t6 t15 k0 k1=>c 24 Dr.YU rfl (((),t6,t15,()),(k0,k1,())),fun t6 t15 k0 k1=>c 32 Dr.Vo rfl (((),t6,t15,()),(k0,k1,())),())) Dr.kS (by kernel_rfl)
end
end Go.Proofs.Tryz
set_option maxRecDepth 100000
set_option maxHeartbeats 4000000
namespace Go.Proofs.Tryz
open Go Go.En
noncomputable section
abbrev UE.T:Type:=Int->CT->R1 Unit CT
abbrev J0.KT:Type:=UE.T×Unit
def UE.kB (tK:J0.KT):UE.T:=fun k k0=>
 ci (k<=3) (ck (Cu none (room 40 (k0.l.length+(Dop.HH.mk k 0 0 []::[]).length)))<|
 ck (Az (k+1))<|
 tK.1 (k+1) ((CT.mW k0 (k0.l++Dop.HH.mk k 0 0 []::[]))))<|
 CR () k0
def J0.kS (tK:J0.KT):J0.KT:=(UE.kB tK,())
def J0.kL (n:Nat):J0.KT:=Cw J0.kS n
def J0.k0 (tK:J0.KT) :R1 Unit CT:=
 tK.1 0 (([],([]:List (List UInt8×List Dop.QJ)),()))
def J0.k :R1 Unit CT:=J0.k0 (J0.kL 1000000)
def J0.Kc:=kd 72 J0.p fun x=>J0.k
theorem J0.Kh:J0.Kc.Holds prog:=F4 AH hn J0.ok (fun t x=>J0.k0 t) (fun c=>(fun k k0=>c 3 J0.q3 rfl (((),k,()),(k0,())),())) J0.kS (by kernel_rfl)
abbrev UB.T:Type:=Int->Int->List Int->List Dop.Eh->List Dop.Nl->Int->List Dop.AU->CH->CT->OA Dop.IF Int Int
abbrev Pn.T:Type:=List Int->Int->Int->List Dop.Eh->List Dop.Nl->Int->List Dop.AU->CH->CT->OA Dop.IF Int Int
abbrev Po.T:Type:=List Dop.Eh->List Dop.Nl->Int->List Dop.AU->CH->CT->OA Dop.IF Int Int
abbrev F5.KT:Type:=UB.T×Pn.T×Po.T×Unit
def UB.kB (tK:F5.KT):UB.T:=fun t31 t32 b0 b1_0 b1_1 b1_2 b1_3 k2 k3=>
 let A1:=List.getD b0 t32.toNat 0
 ci (t32<t31) (ck (0<=t32/\t32<I b0.length)<|
 ck (t32.toNat<b0.length)<|
 (HE.k A1 k2 k3).bind fun y3=>
 ci (y3.1.1.kind=53) ((Hi.k y3.1.1 A1 y3.2.1 y3.2.2.1).bind fun y5=>
 ck (Az (t32+1))<|
 tK.1 t31 (t32+1) b0 b1_0 b1_1 b1_2 b1_3 y5.2.1 y5.2.2.1)<|
 ci (y3.1.1.kind=52) ((EE.k y3.1.1 A1 y3.2.1 y3.2.2.1).bind fun y6=>
 ck (Az (t32+1))<|
 tK.1 t31 (t32+1) b0 b1_0 b1_1 b1_2 b1_3 y6.2.1 y6.2.2.1)<|
 ci (y3.1.1.kind=50) ((DZ.k y3.1.1 A1 y3.2.1 y3.2.2.1).bind fun y7=>
 ck (Az (t32+1))<|
 tK.1 t31 (t32+1) b0 b1_0 b1_1 b1_2 b1_3 y7.2.1 y7.2.2.1)<|
 ck (Az (t32+1))<|
 tK.1 t31 (t32+1) b0 b1_0 b1_1 b1_2 b1_3 y3.2.1 y3.2.2.1)<|
 tK.2.1 b0 (I b0.length) 0 b1_0 b1_1 b1_2 b1_3 k2 k3
def Pn.kB (tK:F5.KT):Pn.T:=fun t60 t61 t62 b0_0 b0_1 b0_2 b0_3 k1 k2=>
 let A2:=List.getD t60 t62.toNat 0
 let A1:=tK.2.2.1 b0_0 b0_1 b0_2 b0_3 ((CH.FR (CH.Yj k1 10) 0)) k2
 ci (t62<t61) (ck (0<=t62/\t62<I t60.length)<|
 ck (t62.toNat<t60.length)<|
 (HE.k A2 k1 k2).bind fun y3=>
 ci (y3.1.1.kind=50) (ci (CH.e y3.2.1=0) ((Dr.k y3.1.1 A2 y3.2.1 y3.2.2.1).bind fun y6=>
 ck (Az (t62+1))<|
 tK.2.1 t60 t61 (t62+1) b0_0 b0_1 b0_2 b0_3 ((y6.2.1.1,(),y6.2.1.2.2.1,y6.2.1.2.2.2.1,y6.2.1.2.2.2.2.1,y6.2.1.2.2.2.2.2.1,y6.2.1.2.2.2.2.2.2.1,y6.2.1.2.2.2.2.2.2.2.1,y6.2.1.2.2.2.2.2.2.2.2.1,(),y6.2.1.2.2.2.2.2.2.2.2.2.2.1,y6.2.1.2.2.2.2.2.2.2.2.2.2.2.1,(),(),y6.2.1.2.2.2.2.2.2.2.2.2.2.2.2.2.2.1,y6.2.1.2.2.2.2.2.2.2.2.2.2.2.2.2.2.2.1,y6.2.1.2.2.2.2.2.2.2.2.2.2.2.2.2.2.2.2.1,y6.2.1.2.2.2.2.2.2.2.2.2.2.2.2.2.2.2.2.2.1,y6.2.1.2.2.2.2.2.2.2.2.2.2.2.2.2.2.2.2.2.2.1,())) y6.2.2.1)<|
 ck (Az (t62+1))<|
 tK.2.1 t60 t61 (t62+1) b0_0 b0_1 b0_2 b0_3 y3.2.1 y3.2.2.1)<|
 ck (Az (t62+1))<|
 tK.2.1 t60 t61 (t62+1) b0_0 b0_1 b0_2 b0_3 y3.2.1 y3.2.2.1)<|
 ci (k1.e=0) (ci (!(AN k1.sigs ([109,97,105,110]:List UInt8)).isSome) A1<|
 ci (0<I ((AN k1.sigs ([109,97,105,110]:List UInt8)).getD Dop.d15).params.length) A1<|
 ci (!(((AN k1.sigs ([109,97,105,110]:List UInt8)).getD Dop.d15).Fo=1)) A1<|
 tK.2.2.1 b0_0 b0_1 b0_2 b0_3 k1 k2)<|
 tK.2.2.1 b0_0 b0_1 b0_2 b0_3 k1 k2
def Po.kB (tK:F5.KT):Po.T:=fun b0_0 b0_1 b0_2 b0_3 k1 k2=>
 ci (!(k1.e=0)) (Js (Dop.IF.mk [] [] 0 []) k1.when k1.e)<|
 Js (Dop.IF.mk k1.funcs k1.globals k1.top k1.nodes) 0 0
def F5.kS (tK:F5.KT):F5.KT:=(UB.kB tK,Pn.kB tK,Po.kB tK,())
def F5.kL (n:Nat):F5.KT:=Cw F5.kS n
def F5.k0 (tK:F5.KT) (o:Dop.G2):OA Dop.IF Int Int:=
 (J0.k).bind fun y2=>
 (GX.k o o.top).bind fun y3=>
 tK.1 (I y3.1.1.length) 0 y3.1.1 [] [] 0 [] ((o,(),[],[],[],1,[],([]:List (List UInt8×Dop.Da))::[],([]:List (List UInt8×Dop.QF)),(),Dop.Eh.mk [] 0 0 0 0,0,(),(),0,[],0,0,0,())) y2.2.1
def F5.k (o:Dop.G2):OA Dop.IF Int Int:=F5.k0 (F5.kL 1000000) o
def F5.Kc:=kd 42 F5.p fun x=>F5.k x.1.1
theorem F5.Kh:F5.Kc.Holds prog:=F4 AH (hc J0.Kh (hc GX.Kh (hc HE.Kh (hc Hi.Kh (hc EE.Kh (hc DZ.Kh (hc Dr.Kh hn))))))) F5.ok (fun t x=>F5.k0 t x.1.1) (fun c=>(fun t31 t32 b0 b1_0 b1_1 b1_2 b1_3 k2 k3=>c 5 F5.q5 rfl (((),(),(),(),t31,t32,()),((b0,()),(b1_0,b1_1,b1_2,b1_3,()),k2,k3,())),fun t60 t61 t62 b0_0 b0_1 b0_2 b0_3 k1 k2=>c 17 F5.mH rfl (((),(),t60,t61,t62,()),((b0_0,b0_1,b0_2,b0_3,()),k1,k2,())),fun b0_0 b0_1 b0_2 b0_3 k1 k2=>c 26 F5.mJ rfl (((),(),()),((b0_0,b0_1,b0_2,b0_3,()),k1,k2,())),())) F5.kS (by kernel_rfl)
def m18.k (s:List UInt8):OA Dop.IF Int Int:=
 (VL.k s).bind fun y2=>
 ci (!(y2.1.2.2.1=0)) (Js (Dop.IF.mk [] [] 0 []) y2.1.2.1 y2.1.2.2.1)<|
 (F5.k y2.1.1).bind mF
def m18.Kc:=kd 18 m18.p fun x=>m18.k x.1.1
theorem m18.Kh:m18.Kc.Holds prog:=kh AH (hc VL.Kh (hc F5.Kh hn)) m18.ok (by kernel_rfl)
end
end Go.Proofs.Tryz
