/- core.function's jump, with contracts that the kernel can run. -/
import Derived.Test.YtkpggdcpaeanaaaGreatDoorTwM
import Derived.Test.YtkpggdcpaeanaaaGreatDoorMp
import Derived.Test.YtkpggdcpaeanaaaGreatDoorMo
set_option linter.all false
set_option maxRecDepth 100000
namespace Go.Proofs.Tryz
open Go Go.En Go.RowKit
noncomputable def D9.KE:Env Dop.D4:=BC prog 78 tb [Ci.Od,Ga.Kc,Nj.Kc,Ag.Kc,IG.Kc,Ff.Kc,EL.Kc,BZ.Kc,Bp.Kc,Bf.Od,Ab.Kc] D9.p
noncomputable def Vy (n:Int) (k:CK) (k1:CT):Option ((Dop.AR×Unit)×(CK×CT×Unit)):=Nj.k n k k1
noncomputable def V0 (n:Int) (k:CK) (k1:CT):Option ((Dop.Ae×Unit)×(CK×CT×Unit)):=Ag.k 9 n k k1
theorem Vz (n:Int) (k0:CK) (k1:CT):Vy n k0 k1=
 if (decide (n<(0:Int)))=true then some ((⟨0,-1,-1,-1,-1,[],0,0,0⟩,()),(k0,(k1,())))
 else if (decide (I k0.t.nodes.length<=n))=true then some ((⟨0,-1,-1,-1,-1,[],0,0,0⟩,()),(k0,(k1,())))
  else if (decide ((0:Int)<=n/\n<I k0.t.nodes.length))=true then some ((@List.getD Dop.AR k0.t.nodes n.toNat Dop.d5,()),(k0,(k1,()))) else none:=by kernel_rfl
theorem TW (n:Int) (k0:CK) (k1:CT):V0 n k0 k1=
 if (decide (k0.e=(0:Int)))=true then
  (Vy n k0 k1).bind fun y3=>some ((⟨-1,1,0,0,false⟩,()),((CK.FY (CK.X8 y3.snd.fst 9) (y3.fst.fst.at_)),(y3.snd.snd.fst,())))
 else some ((⟨-1,1,0,0,false⟩,()),(k0,(k1,()))):=by kernel_rfl
theorem QU (n:Int) (k0:CK) (k1:CT): ∃ x,Vy n k0 k1=some ((x,()),(k0,(k1,())))/\x.at_=LO k0 n:=by
 rw [Vz]
 unfold LO
 by_cases h:n<0
 ·rw [if_pos (by simpa using h),if_pos h];exact ⟨_,rfl,rfl⟩
 ·rw [if_neg (by simpa using h),if_neg h]
  by_cases h2:I k0.t.nodes.length<=n
  ·rw [if_pos (by simpa using h2),if_pos h2];exact ⟨_,rfl,rfl⟩
  ·rw [if_neg (by simpa using h2),if_neg h2,if_pos (by simp;omega)];exact ⟨_,rfl,rfl⟩
theorem Ug (f f':Int) (k0:CK) (k1:CT) (h:LO k0 f=LO k0 f'):V0 f k0 k1=V0 f' k0 k1:=by
 obtain ⟨x,h1,h2⟩:=QU f k0 k1
 obtain ⟨x',h1',h2'⟩:=QU f' k0 k1
 rw [TW,TW,h1,h1']
 simp only [Option.bind_some,h2,h2',h]
theorem Uf (t6:List Int) (t15 f:Int) (k:CK) (k1:CT):(NV D9.KE 3000 TX V8 D9.VO.sp [0,6,15,16] [0,6,15] 2 (((),t6,t15,f,()),(k,k1,()))).eval (fun _ _=>none)=
  (V0 f k k1).bind fun y=>some (((),t6,t15,()),(y.2.1,(y.2.2.1,()))):=by kernel_rfl
theorem SM:(D9.KE).Ok prog:=(Gj AH (A6 Ci.IL (A6 Ga.Kh (A6 Nj.Kh (A6 Ag.Kh (A6 IG.Kh (A6 Ff.Kh (A6 EL.Kh (A6 BZ.Kh (A6 Bp.Kh (A6 Bf.IL (A6 Ab.Kh CJ))))))))))) D9.ok).1
noncomputable def fk:Jump D9.KE:=⟨24,32,D9.Xr,D9.VO,by kernel_rfl,by kernel_rfl,jC V0⟩
theorem Yr:fk.Ok prog:=by
 intro Q w0 F D0 β0 M x y hkp _ hg hv
 obtain ⟨⟨⟨⟩,t6,t15,⟨⟩⟩,k,k1,⟨⟩⟩:=x
 exact Yy SM Ug Uf t6 t15 k k1 y hkp hg hv
end Go.Proofs.Tryz
/- Functions in plain words (what their equations say), and their contracts. Written by a program. -/
set_option maxRecDepth 100000
set_option maxHeartbeats 4000000
namespace Go.Proofs.Tryz
open Go Go.En
noncomputable section
abbrev Tt.T:Type:=List Int->List Int->Int->Int->CK->CT->Dop.AR->Ns CK CT
abbrev Pk.T:Type:=List Int->Int->CK->CT->Ns CK CT
abbrev Pm.T:Type:=List Int->Int->CK->CT->Ns CK CT
abbrev D9.KT:Type:=Tt.T×Pk.T×Pm.T×Unit
def Tt.kB (tK:D9.KT):Tt.T:=fun t6 t89 t90 t91 k0 k1 b2=>
 let A1:=List.getD t89 t91.toNat 0
 ci (t91<t90) (ck (0<=t91/\t91<I t89.length)<|
 ck (t91.toNat<t89.length)<|
 (Nj.k A1 k0 k1).bind fun y3=>
 ck (0<=t91/\t91<I ((AL (CK.sigs y3.2.1) b2.text).getD Dop.d15).params.length)<|
 ci ((AL (CK.taken y3.2.1) y3.1.1.text).getD (0:Int)=0) (ck ((0:Int)<=1/\1<I (CK.names y3.2.1).length)<|
 ck (Int.toNat 1<(CK.names y3.2.1).length)<|
 ck (Int.toNat 1<(CK.names y3.2.1).length)<|
 ci ((AL (List.getD (CK.names y3.2.1) (Int.toNat 1) (([]:List (List UInt8×Dop.B6)))) y3.1.1.text).isSome) ((Ag.k 7 A1 y3.2.1 y3.2.2.1).bind fun y6=>
 ck ((0:Int)<=1/\1<I (CK.names y6.2.1).length)<|
 ck (Int.toNat 1<(CK.names y6.2.1).length)<|
 ck (Int.toNat 1<(CK.names y6.2.1).length)<|
 ck (Ap (t91+1))<|
 tK.1 t6 t89 t90 (t91+1) ((CK.B8 y6.2.1 ((CK.names y6.2.1).set (Int.toNat 1) (BO (List.getD (CK.names y6.2.1) (Int.toNat 1) (([]:List (List UInt8×Dop.B6)))) y3.1.1.text (Dop.B6.mk 2 t91 (List.getD ((AL (CK.sigs y3.2.1) b2.text).getD Dop.d15).params t91.toNat 0)))))) y6.2.2.1 b2)<|
 ck ((0:Int)<=1/\1<I (CK.names y3.2.1).length)<|
 ck (Int.toNat 1<(CK.names y3.2.1).length)<|
 ck (Int.toNat 1<(CK.names y3.2.1).length)<|
 ck (Ap (t91+1))<|
 tK.1 t6 t89 t90 (t91+1) ((CK.B8 y3.2.1 ((CK.names y3.2.1).set (Int.toNat 1) (BO (List.getD (CK.names y3.2.1) (Int.toNat 1) (([]:List (List UInt8×Dop.B6)))) y3.1.1.text (Dop.B6.mk 2 t91 (List.getD ((AL (CK.sigs y3.2.1) b2.text).getD Dop.d15).params t91.toNat 0)))))) y3.2.2.1 b2)<|
 (IG.k y3.1.1.text (List.getD ((AL (CK.sigs y3.2.1) b2.text).getD Dop.d15).params t91.toNat 0) A1 true y3.2.1 y3.2.2.1).bind fun y5=>
 ci y5.1.2.1 ((Ff.k y5.1.1 y5.2.1 y5.2.2.1).bind fun y7=>
 (EL.k t91 y7.2.1 y7.2.2.1).bind fun y8=>
 (BZ.k 5 y7.1.1 y8.1.1 ((-1)) 0 [] y8.2.1 y8.2.2.1).bind fun y9=>
 (Bp.k 30 y9.1.1 ((-1)) ((-1)) ((-1)) 0 [] y9.2.1 y9.2.2.1).bind fun y10=>
 ck (Cc none (room 8 (t6.length+(y10.1.1::[]).length)))<|
 ck (Ap (t91+1))<|
 tK.1 (t6++y10.1.1::[]) t89 t90 (t91+1) y10.2.1 y10.2.2.1 b2)<|
 ck (Ap (t91+1))<|
 tK.1 t6 t89 t90 (t91+1) y5.2.1 y5.2.2.1 b2)<|
 (Bf.k b2.b k0 k1).bind fun y3=>
 ck ((0:Int)<=1/\1<=I (CK.names y3.2.1).length)<|
 tK.2.1 t6 y3.1.1 ((CK.B8 y3.2.1 (List.take (Int.toNat 1) (CK.names y3.2.1)))) y3.2.2.1
def Pk.kB (tK:D9.KT):Pk.T:=fun t6 t15 k0 k1=>
 (jC (Ag.k 9) (((),t6,t15,()),(k0,k1,()))).bind fun y=>tK.2.2.1 y.1.2.1 y.1.2.2.1 y.2.1 y.2.2.1
def Pm.kB (tK:D9.KT):Pm.T:=fun t6 t15 k0 k1=>
 ck (Cc none (room 8 (t6.length+(t15::[]).length)))<|
 (Ab.k (t6++t15::[]) k0 k1).bind fun y2=>
 (Bp.k 43 y2.1.1 ((-1)) ((-1)) ((-1)) 0 [] y2.2.1 y2.2.2.1).bind fun y3=>
 ck (Cc none (room 48 ((CK.funcs y3.2.1).length+(Dop.DR.mk (CK.f y3.2.1).name (CK.f y3.2.1).params (CK.f y3.2.1).Al (CK.f y3.2.1).frame y3.1.1::[]).length)))<|
 Xs (CK.X9 (CK.Js y3.2.1 (CK.funcs y3.2.1++Dop.DR.mk (CK.f y3.2.1).name (CK.f y3.2.1).params (CK.f y3.2.1).Al (CK.f y3.2.1).frame y3.1.1::[])) (Dop.DR.mk (CK.f y3.2.1).name (CK.f y3.2.1).params (CK.f y3.2.1).Al (CK.f y3.2.1).frame y3.1.1)) y3.2.2.1
def D9.kS (tK:D9.KT):D9.KT:=(Tt.kB tK,Pk.kB tK,Pm.kB tK,())
def D9.kL (n:Nat):D9.KT:=Cv D9.kS n
def D9.k0 (tK:D9.KT) (t1:Dop.AR) (t2:Int) (k0:CH) (k1:CT):Ns CK CT:=
 (Ci.k t2 ((k0.t,(),k0.num,k0.funcs,k0.globals,k0.top,k0.nodes,k0.names,k0.sigs,([]:List (List UInt8×Int)),Dop.DR.mk t1.text 0 0 0 0,((AL k0.sigs t1.text).getD Dop.d15).BX,([]:List (List UInt8×Int)),([]:List (List UInt8×Int)),k0.loops,k0.BE,k0.Gh,k0.e,k0.when,())) k1).bind fun y2=>
 ck (room 8 ((CK.names y2.2.1).length+1))<|
 (Ga.k (CK.t y2.2.1) t1.a).bind fun y3=>
 tK.1 [] y3.1.1 (I y3.1.1.length) 0 ((CK.X9 (CK.B8 y2.2.1 (CK.names y2.2.1++([]:List (List UInt8×Dop.B6))::[])) (Dop.DR.mk (CK.f y2.2.1).name (I ((AL (CK.sigs y2.2.1) t1.text).getD Dop.d15).params.length) (I ((AL (CK.sigs y2.2.1) t1.text).getD Dop.d15).params.length) (CK.f y2.2.1).frame (CK.f y2.2.1).body))) y2.2.2.1 t1
def D9.k (t1:Dop.AR) (t2:Int) (k0:CH) (k1:CT):Ns CK CT:=D9.k0 (D9.kL 1000000) t1 t2 k0 k1
def D9.Kc:=kd 78 D9.p fun x=>D9.k x.1.2.1 x.1.2.2.1 x.2.1 x.2.2.1
theorem D9.Kh:D9.Kc.Holds prog:=lB AH (hc Ci.IL (hc Ga.Kh (hc Nj.Kh (hc Ag.Kh (hc IG.Kh (hc Ff.Kh (hc EL.Kh (hc BZ.Kh (hc Bp.Kh (hc Bf.IL (hc Ab.Kh hn))))))))))) D9.ok fk Yr (fun t x=>D9.k0 t x.1.2.1 x.1.2.2.1 x.2.1 x.2.2.1) (fun c=>(fun t6 t89 t90 t91 k0 k1 b2=>c 9 D9.q9 rfl (((),(),t6,t89,t90,t91,()),(k0,k1,(b2,()),())),fun t6 t15 k0 k1=>c 24 D9.Xr rfl (((),t6,t15,()),(k0,k1,())),fun t6 t15 k0 k1=>c 32 D9.VO rfl (((),t6,t15,()),(k0,k1,())),())) D9.kS (by kernel_rfl)
end
end Go.Proofs.Tryz
/- Functions in plain words (what their equations say), and their contracts. Written by a program. -/
set_option maxRecDepth 100000
set_option maxHeartbeats 4000000
namespace Go.Proofs.Tryz
open Go Go.En
noncomputable section
abbrev Tq.T:Type:=Int->CT->R1 Unit CT
abbrev J1.KT:Type:=Tq.T×Unit
def Tq.kB (tK:J1.KT):Tq.T:=fun k k0=>
 ci (k<=3) (ck (Cc none (room 40 (k0.l.length+(Dop.HN.mk k 0 0 []::[]).length)))<|
 ck (Ap (k+1))<|
 tK.1 (k+1) ((CT.kk k0 (k0.l++Dop.HN.mk k 0 0 []::[]))))<|
 CS () k0
def J1.kS (tK:J1.KT):J1.KT:=(Tq.kB tK,())
def J1.kL (n:Nat):J1.KT:=Cv J1.kS n
def J1.k0 (tK:J1.KT) :R1 Unit CT:=
 tK.1 0 (([],([]:List (List UInt8×List Dop.No)),()))
def J1.k :R1 Unit CT:=J1.k0 (J1.kL 1000000)
def J1.Kc:=kd 72 J1.p fun x=>J1.k
theorem J1.Kh:J1.Kc.Holds prog:=E7 AH hn J1.ok (fun t x=>J1.k0 t) (fun c=>(fun k k0=>c 3 J1.q3 rfl (((),k,()),(k0,())),())) J1.kS (by kernel_rfl)
abbrev Tn.T:Type:=Int->Int->List Int->List Dop.DR->List Dop.Ni->Int->List Dop.AR->CH->CT->Oe Dop.Jy Int Int
abbrev Pe.T:Type:=List Int->Int->Int->List Dop.DR->List Dop.Ni->Int->List Dop.AR->CH->CT->Oe Dop.Jy Int Int
abbrev Pf.T:Type:=List Dop.DR->List Dop.Ni->Int->List Dop.AR->CH->CT->Oe Dop.Jy Int Int
abbrev HM.KT:Type:=Tn.T×Pe.T×Pf.T×Unit
def Tn.kB (tK:HM.KT):Tn.T:=fun t31 t32 b0 b1_0 b1_1 b1_2 b1_3 k2 k3=>
 let A1:=List.getD b0 t32.toNat 0
 ci (t32<t31) (ck (0<=t32/\t32<I b0.length)<|
 ck (t32.toNat<b0.length)<|
 (Gy.k A1 k2 k3).bind fun y3=>
 ci (y3.1.1.kind=53) ((EN.k y3.1.1 A1 y3.2.1 y3.2.2.1).bind fun y5=>
 ck (Ap (t32+1))<|
 tK.1 t31 (t32+1) b0 b1_0 b1_1 b1_2 b1_3 y5.2.1 y5.2.2.1)<|
 ci (y3.1.1.kind=52) ((EO.k y3.1.1 A1 y3.2.1 y3.2.2.1).bind fun y6=>
 ck (Ap (t32+1))<|
 tK.1 t31 (t32+1) b0 b1_0 b1_1 b1_2 b1_3 y6.2.1 y6.2.2.1)<|
 ci (y3.1.1.kind=50) ((DZ.k y3.1.1 A1 y3.2.1 y3.2.2.1).bind fun y7=>
 ck (Ap (t32+1))<|
 tK.1 t31 (t32+1) b0 b1_0 b1_1 b1_2 b1_3 y7.2.1 y7.2.2.1)<|
 ck (Ap (t32+1))<|
 tK.1 t31 (t32+1) b0 b1_0 b1_1 b1_2 b1_3 y3.2.1 y3.2.2.1)<|
 tK.2.1 b0 (I b0.length) 0 b1_0 b1_1 b1_2 b1_3 k2 k3
def Pe.kB (tK:HM.KT):Pe.T:=fun t60 t61 t62 b0_0 b0_1 b0_2 b0_3 k1 k2=>
 let A2:=List.getD t60 t62.toNat 0
 let A1:=tK.2.2.1 b0_0 b0_1 b0_2 b0_3 ((CH.FY (CH.X8 k1 10) 0)) k2
 ci (t62<t61) (ck (0<=t62/\t62<I t60.length)<|
 ck (t62.toNat<t60.length)<|
 (Gy.k A2 k1 k2).bind fun y3=>
 ci (y3.1.1.kind=50) (ci (CH.e y3.2.1=0) ((D9.k y3.1.1 A2 y3.2.1 y3.2.2.1).bind fun y6=>
 ck (Ap (t62+1))<|
 tK.2.1 t60 t61 (t62+1) b0_0 b0_1 b0_2 b0_3 ((y6.2.1.1,(),y6.2.1.2.2.1,y6.2.1.2.2.2.1,y6.2.1.2.2.2.2.1,y6.2.1.2.2.2.2.2.1,y6.2.1.2.2.2.2.2.2.1,y6.2.1.2.2.2.2.2.2.2.1,y6.2.1.2.2.2.2.2.2.2.2.1,(),y6.2.1.2.2.2.2.2.2.2.2.2.2.1,y6.2.1.2.2.2.2.2.2.2.2.2.2.2.1,(),(),y6.2.1.2.2.2.2.2.2.2.2.2.2.2.2.2.2.1,y6.2.1.2.2.2.2.2.2.2.2.2.2.2.2.2.2.2.1,y6.2.1.2.2.2.2.2.2.2.2.2.2.2.2.2.2.2.2.1,y6.2.1.2.2.2.2.2.2.2.2.2.2.2.2.2.2.2.2.2.1,y6.2.1.2.2.2.2.2.2.2.2.2.2.2.2.2.2.2.2.2.2.1,())) y6.2.2.1)<|
 ck (Ap (t62+1))<|
 tK.2.1 t60 t61 (t62+1) b0_0 b0_1 b0_2 b0_3 y3.2.1 y3.2.2.1)<|
 ck (Ap (t62+1))<|
 tK.2.1 t60 t61 (t62+1) b0_0 b0_1 b0_2 b0_3 y3.2.1 y3.2.2.1)<|
 ci (k1.e=0) (ci (!(AL k1.sigs ([109,97,105,110]:List UInt8)).isSome) A1<|
 ci (0<I ((AL k1.sigs ([109,97,105,110]:List UInt8)).getD Dop.d15).params.length) A1<|
 ci (!(((AL k1.sigs ([109,97,105,110]:List UInt8)).getD Dop.d15).BX=1)) A1<|
 tK.2.2.1 b0_0 b0_1 b0_2 b0_3 k1 k2)<|
 tK.2.2.1 b0_0 b0_1 b0_2 b0_3 k1 k2
def Pf.kB (tK:HM.KT):Pf.T:=fun b0_0 b0_1 b0_2 b0_3 k1 k2=>
 ci (!(k1.e=0)) (Ds (Dop.Jy.mk [] [] 0 []) k1.when k1.e)<|
 Ds (Dop.Jy.mk k1.funcs k1.globals k1.top k1.nodes) 0 0
def HM.kS (tK:HM.KT):HM.KT:=(Tn.kB tK,Pe.kB tK,Pf.kB tK,())
def HM.kL (n:Nat):HM.KT:=Cv HM.kS n
def HM.k0 (tK:HM.KT) (o:Dop.Fy):Oe Dop.Jy Int Int:=
 (J1.k).bind fun y2=>
 (Ga.k o o.top).bind fun y3=>
 tK.1 (I y3.1.1.length) 0 y3.1.1 [] [] 0 [] ((o,(),[],[],[],1,[],([]:List (List UInt8×Dop.B6))::[],([]:List (List UInt8×Dop.Of)),(),Dop.DR.mk [] 0 0 0 0,0,(),(),0,[],0,0,0,())) y2.2.1
def HM.k (o:Dop.Fy):Oe Dop.Jy Int Int:=HM.k0 (HM.kL 1000000) o
def HM.Kc:=kd 42 HM.p fun x=>HM.k x.1.1
theorem HM.Kh:HM.Kc.Holds prog:=E7 AH (hc J1.Kh (hc Ga.Kh (hc Gy.Kh (hc EN.Kh (hc EO.Kh (hc DZ.Kh (hc D9.Kh hn))))))) HM.ok (fun t x=>HM.k0 t x.1.1) (fun c=>(fun t31 t32 b0 b1_0 b1_1 b1_2 b1_3 k2 k3=>c 5 HM.q5 rfl (((),(),(),(),t31,t32,()),((b0,()),(b1_0,b1_1,b1_2,b1_3,()),k2,k3,())),fun t60 t61 t62 b0_0 b0_1 b0_2 b0_3 k1 k2=>c 17 HM.kP rfl (((),(),t60,t61,t62,()),((b0_0,b0_1,b0_2,b0_3,()),k1,k2,())),fun b0_0 b0_1 b0_2 b0_3 k1 k2=>c 26 HM.kT rfl (((),(),()),((b0_0,b0_1,b0_2,b0_3,()),k1,k2,())),())) HM.kS (by kernel_rfl)
def m18.k (s:List UInt8):Oe Dop.Jy Int Int:=
 (XH.k s).bind fun y2=>
 ci (!(y2.1.2.2.1=0)) (Ds (Dop.Jy.mk [] [] 0 []) y2.1.2.1 y2.1.2.2.1)<|
 (HM.k y2.1.1).bind kN
def m18.Kc:=kd 18 m18.p fun x=>m18.k x.1.1
theorem m18.Kh:m18.Kc.Holds prog:=kh AH (hc XH.Kh (hc HM.Kh hn)) m18.ok (by kernel_rfl)
end
end Go.Proofs.Tryz
