/- core.function's jump, with contracts that the kernel can run. -/
import Derived.Test.YtkpggdcpaeanaaaGreatDoorTwM
import Derived.Test.YtkpggdcpaeanaaaGreatDoorMp
import Derived.Test.YtkpggdcpaeanaaaGreatDoorMo
set_option maxRecDepth 100000
namespace Go.Proofs.Tryz
open Go Go.En Go.RowKit
noncomputable def Dp.KE:Env Dop.D4:=Az prog 78 tb [Cc.QZ,F5.Kc,Md.Kc,Ac.Kc,Hi.Kc,FE.Kc,Dy.Kc,BQ.Kc,Bi.Kc,BX.QZ,AX.Kc] Dp.p
noncomputable def Ut (n:Int) (k:CK) (k1:CT):Option ((Dop.Aa×Unit)×(CK×CT×Unit)):=Md.k n k k1
noncomputable def Uv (n:Int) (k:CK) (k1:CT):Option ((Dop.AZ×Unit)×(CK×CT×Unit)):=Ac.k 9 n k k1
theorem Uu (n:Int) (k0:CK) (k1:CT):Ut n k0 k1=
 if (decide (n<(0:Int)))=true then some ((⟨0,-1,-1,-1,-1,[],0,0,0⟩,()),(k0,(k1,())))
 else if (decide (I k0.t.nodes.length≤n))=true then some ((⟨0,-1,-1,-1,-1,[],0,0,0⟩,()),(k0,(k1,())))
  else if (decide ((0:Int)≤n∧n<I k0.t.nodes.length))=true then some ((@List.getD Dop.Aa k0.t.nodes n.toNat Dop.d5,()),(k0,(k1,()))) else none:=by kernel_rfl
theorem SL (n:Int) (k0:CK) (k1:CT):Uv n k0 k1=
 if (decide (k0.e=(0:Int)))=true then
  (Ut n k0 k1).bind fun y3=>some ((⟨-1,1,0,0,false⟩,()),((CK.E7 (CK.Wr y3.snd.fst 9) (y3.fst.fst.at_)),(y3.snd.snd.fst,())))
 else some ((⟨-1,1,0,0,false⟩,()),(k0,(k1,()))):=by kernel_rfl
theorem PL (n:Int) (k0:CK) (k1:CT): ∃ x,Ut n k0 k1=some ((x,()),(k0,(k1,())))∧x.at_=Kb k0 n:=by
 rw [Uu]
 unfold Kb
 by_cases h:n<0
 ·rw [if_pos (by simpa using h),if_pos h];exact ⟨_,rfl,rfl⟩
 ·rw [if_neg (by simpa using h),if_neg h]
  by_cases h2:I k0.t.nodes.length≤n
  ·rw [if_pos (by simpa using h2),if_pos h2];exact ⟨_,rfl,rfl⟩
  ·rw [if_neg (by simpa using h2),if_neg h2,if_pos (by simp;omega)];exact ⟨_,rfl,rfl⟩
theorem TY (f f':Int) (k0:CK) (k1:CT) (h:Kb k0 f=Kb k0 f'):Uv f k0 k1=Uv f' k0 k1:=by
 obtain ⟨x,h1,h2⟩:=PL f k0 k1
 obtain ⟨x',h1',h2'⟩:=PL f' k0 k1
 rw [SL,SL,h1,h1']
 simp only [Option.bind_some,h2,h2',h]
theorem TX (t6:List Int) (t15 f:Int) (k:CK) (k1:CT):(F0 Dp.KE 3000 SM U3 Dp.UG.sp [0,6,15,16] [0,6,15] 2 (((),t6,t15,f,()),(k,k1,()))).eval (fun _ _=>none)=
  (Uv f k k1).bind fun y=>some (((),t6,t15,()),(y.2.1,(y.2.2.1,()))):=by kernel_rfl
theorem RD:(Dp.KE).Ok prog:=(EZ AJ (Af Cc.J1 (Af F5.Kh (Af Md.Kh (Af Ac.Kh (Af Hi.Kh (Af FE.Kh (Af Dy.Kh (Af BQ.Kh (Af Bi.Kh (Af BX.J1 (Af AX.Kh Bb))))))))))) Dp.ok).1
noncomputable def dY:Jump Dp.KE:=⟨24,32,Dp.WZ,Dp.UG,by kernel_rfl,by kernel_rfl,fi Uv⟩
theorem Xb:dY.Ok prog:=by
 intro Q w0 F D0 β0 M x y hkp _ hg hv
 obtain ⟨⟨⟨⟩,t6,t15,⟨⟩⟩,k,k1,⟨⟩⟩:=x
 exact Xi RD TY TX t6 t15 k k1 y hkp hg hv
end Go.Proofs.Tryz
/- Functions in plain words (what their equations say), and their contracts. Written by a program. -/
set_option maxRecDepth 100000
set_option maxHeartbeats 4000000
namespace Go.Proofs.Tryz
open Go Go.En
noncomputable section
abbrev Sh.T:Type:=List Int→List Int→Int→Int→CK→CT→Dop.Aa→Mk CK CT
abbrev OX.T:Type:=List Int→Int→CK→CT→Mk CK CT
abbrev OY.T:Type:=List Int→Int→CK→CT→Mk CK CT
abbrev Dp.KT:Type:=Sh.T×OX.T×OY.T×Unit
def Sh.kB (tK:Dp.KT):Sh.T:=fun t6 t89 t90 t91 k0 k1 b2=>
 let A1:=List.getD t89 t91.toNat 0
 ci (t91<t90) (ck (0≤t91∧t91<I t89.length)<|
 ck (t91.toNat<t89.length)<|
 (Md.k A1 k0 k1).bind fun y3=>
 ck (0≤t91∧t91<I ((AL (CK.sigs y3.2.1) b2.text).getD Dop.d15).params.length)<|
 ci ((AL (CK.taken y3.2.1) y3.1.1.text).getD (0:Int)=0) (ck ((0:Int)≤1∧1<I (CK.names y3.2.1).length)<|
 ck (Int.toNat 1<(CK.names y3.2.1).length)<|
 ck (Int.toNat 1<(CK.names y3.2.1).length)<|
 ci ((AL (List.getD (CK.names y3.2.1) (Int.toNat 1) (([]:List (List UInt8×Dop.B3)))) y3.1.1.text).isSome) ((Ac.k 7 A1 y3.2.1 y3.2.2.1).bind fun y6=>
 ck ((0:Int)≤1∧1<I (CK.names y6.2.1).length)<|
 ck (Int.toNat 1<(CK.names y6.2.1).length)<|
 ck (Int.toNat 1<(CK.names y6.2.1).length)<|
 ck (Av (t91+1))<|
 tK.1 t6 t89 t90 (t91+1) ((CK.B5 y6.2.1 ((CK.names y6.2.1).set (Int.toNat 1) (BF (List.getD (CK.names y6.2.1) (Int.toNat 1) (([]:List (List UInt8×Dop.B3)))) y3.1.1.text (Dop.B3.mk 2 t91 (List.getD ((AL (CK.sigs y3.2.1) b2.text).getD Dop.d15).params t91.toNat 0)))))) y6.2.2.1 b2)<|
 ck ((0:Int)≤1∧1<I (CK.names y3.2.1).length)<|
 ck (Int.toNat 1<(CK.names y3.2.1).length)<|
 ck (Int.toNat 1<(CK.names y3.2.1).length)<|
 ck (Av (t91+1))<|
 tK.1 t6 t89 t90 (t91+1) ((CK.B5 y3.2.1 ((CK.names y3.2.1).set (Int.toNat 1) (BF (List.getD (CK.names y3.2.1) (Int.toNat 1) (([]:List (List UInt8×Dop.B3)))) y3.1.1.text (Dop.B3.mk 2 t91 (List.getD ((AL (CK.sigs y3.2.1) b2.text).getD Dop.d15).params t91.toNat 0)))))) y3.2.2.1 b2)<|
 (Hi.k y3.1.1.text (List.getD ((AL (CK.sigs y3.2.1) b2.text).getD Dop.d15).params t91.toNat 0) A1 true y3.2.1 y3.2.2.1).bind fun y5=>
 ci y5.1.2.1 ((FE.k y5.1.1 y5.2.1 y5.2.2.1).bind fun y7=>
 (Dy.k t91 y7.2.1 y7.2.2.1).bind fun y8=>
 (BQ.k 5 y7.1.1 y8.1.1 ((-1)) 0 [] y8.2.1 y8.2.2.1).bind fun y9=>
 (Bi.k 30 y9.1.1 ((-1)) ((-1)) ((-1)) 0 [] y9.2.1 y9.2.2.1).bind fun y10=>
 ck (Cj none (room 8 (t6.length+(y10.1.1::[]).length)))<|
 ck (Av (t91+1))<|
 tK.1 (t6++y10.1.1::[]) t89 t90 (t91+1) y10.2.1 y10.2.2.1 b2)<|
 ck (Av (t91+1))<|
 tK.1 t6 t89 t90 (t91+1) y5.2.1 y5.2.2.1 b2)<|
 (BX.k b2.b k0 k1).bind fun y3=>
 ck ((0:Int)≤1∧1≤I (CK.names y3.2.1).length)<|
 tK.2.1 t6 y3.1.1 ((CK.B5 y3.2.1 (List.take (Int.toNat 1) (CK.names y3.2.1)))) y3.2.2.1
def OX.kB (tK:Dp.KT):OX.T:=fun t6 t15 k0 k1=>
 (fi (Ac.k 9) (((),t6,t15,()),(k0,k1,()))).bind fun y=>tK.2.2.1 y.1.2.1 y.1.2.2.1 y.2.1 y.2.2.1
def OY.kB (tK:Dp.KT):OY.T:=fun t6 t15 k0 k1=>
 ck (Cj none (room 8 (t6.length+(t15::[]).length)))<|
 (AX.k (t6++t15::[]) k0 k1).bind fun y2=>
 (Bi.k 43 y2.1.1 ((-1)) ((-1)) ((-1)) 0 [] y2.2.1 y2.2.2.1).bind fun y3=>
 ck (Cj none (room 48 ((CK.funcs y3.2.1).length+(Dop.Db.mk (CK.f y3.2.1).name (CK.f y3.2.1).params (CK.f y3.2.1).BH (CK.f y3.2.1).frame y3.1.1::[]).length)))<|
 Wa (CK.Ws (CK.JF y3.2.1 (CK.funcs y3.2.1++Dop.Db.mk (CK.f y3.2.1).name (CK.f y3.2.1).params (CK.f y3.2.1).BH (CK.f y3.2.1).frame y3.1.1::[])) (Dop.Db.mk (CK.f y3.2.1).name (CK.f y3.2.1).params (CK.f y3.2.1).BH (CK.f y3.2.1).frame y3.1.1)) y3.2.2.1
def Dp.kS (tK:Dp.KT):Dp.KT:=(Sh.kB tK,OX.kB tK,OY.kB tK,())
def Dp.kL (n:Nat):Dp.KT:=Eu Dp.kS n
def Dp.k0 (tK:Dp.KT) (t1:Dop.Aa) (t2:Int) (k0:CH) (k1:CT):Mk CK CT:=
 (Cc.k t2 ((k0.t,(),k0.num,k0.funcs,k0.globals,k0.top,k0.nodes,k0.names,k0.sigs,([]:List (List UInt8×Int)),Dop.Db.mk t1.text 0 0 0 0,((AL k0.sigs t1.text).getD Dop.d15).BO,([]:List (List UInt8×Int)),([]:List (List UInt8×Int)),k0.loops,k0.A8,k0.GA,k0.e,k0.when,())) k1).bind fun y2=>
 ck (room 8 ((CK.names y2.2.1).length+1))<|
 (F5.k (CK.t y2.2.1) t1.a).bind fun y3=>
 tK.1 [] y3.1.1 (I y3.1.1.length) 0 ((CK.Ws (CK.B5 y2.2.1 (CK.names y2.2.1++([]:List (List UInt8×Dop.B3))::[])) (Dop.Db.mk (CK.f y2.2.1).name (I ((AL (CK.sigs y2.2.1) t1.text).getD Dop.d15).params.length) (I ((AL (CK.sigs y2.2.1) t1.text).getD Dop.d15).params.length) (CK.f y2.2.1).frame (CK.f y2.2.1).body))) y2.2.2.1 t1
def Dp.k (t1:Dop.Aa) (t2:Int) (k0:CH) (k1:CT):Mk CK CT:=Dp.k0 (Dp.kL 1000000) t1 t2 k0 k1
def Dp.Kc:=kd 78 Dp.p fun x=>Dp.k x.1.2.1 x.1.2.2.1 x.2.1 x.2.2.1
theorem Dp.Kh:Dp.Kc.Holds prog:=iO AJ (hc Cc.J1 (hc F5.Kh (hc Md.Kh (hc Ac.Kh (hc Hi.Kh (hc FE.Kh (hc Dy.Kh (hc BQ.Kh (hc Bi.Kh (hc BX.J1 (hc AX.Kh hn))))))))))) Dp.ok dY Xb (fun t x=>Dp.k0 t x.1.2.1 x.1.2.2.1 x.2.1 x.2.2.1) (fun c=>(fun t6 t89 t90 t91 k0 k1 b2=>c 9 Dp.q9 rfl (((),(),t6,t89,t90,t91,()),(k0,k1,(b2,()),())),fun t6 t15 k0 k1=>c 24 Dp.WZ rfl (((),t6,t15,()),(k0,k1,())),fun t6 t15 k0 k1=>c 32 Dp.UG rfl (((),t6,t15,()),(k0,k1,())),())) Dp.kS (by kernel_rfl)
end
end Go.Proofs.Tryz
/- Functions in plain words (what their equations say), and their contracts. Written by a program. -/
set_option maxRecDepth 100000
set_option maxHeartbeats 4000000
namespace Go.Proofs.Tryz
open Go Go.En
noncomputable section
abbrev Sf.T:Type:=Int→CT→R1 Unit CT
abbrev JM.KT:Type:=Sf.T×Unit
def Sf.kB (tK:JM.KT):Sf.T:=fun k k0=>
 ci (k≤3) (ck (Cj none (room 40 (k0.l.length+(Dop.Gr.mk k 0 0 []::[]).length)))<|
 ck (Av (k+1))<|
 tK.1 (k+1) ((CT.iI k0 (k0.l++Dop.Gr.mk k 0 0 []::[]))))<|
 Cs () k0
def JM.kS (tK:JM.KT):JM.KT:=(Sf.kB tK,())
def JM.kL (n:Nat):JM.KT:=Eu JM.kS n
def JM.k0 (tK:JM.KT) :R1 Unit CT:=
 tK.1 0 (([],([]:List (List UInt8×List Dop.Mg)),()))
def JM.k :R1 Unit CT:=JM.k0 (JM.kL 1000000)
def JM.Kc:=kd 72 JM.p fun x=>JM.k
theorem JM.Kh:JM.Kc.Holds prog:=GG AJ hn JM.ok (fun t x=>JM.k0 t) (fun c=>(fun k k0=>c 3 JM.q3 rfl (((),k,()),(k0,())),())) JM.kS (by kernel_rfl)
abbrev Sb.T:Type:=Int→Int→List Int→List Dop.Db→List Dop.My→Int→List Dop.Aa→CH→CT→QV Dop.UM Int Int
abbrev OS.T:Type:=List Int→Int→Int→List Dop.Db→List Dop.My→Int→List Dop.Aa→CH→CT→QV Dop.UM Int Int
abbrev OT.T:Type:=List Dop.Db→List Dop.My→Int→List Dop.Aa→CH→CT→QV Dop.UM Int Int
abbrev Gp.KT:Type:=Sb.T×OS.T×OT.T×Unit
def Sb.kB (tK:Gp.KT):Sb.T:=fun t31 t32 b0 b1_0 b1_1 b1_2 b1_3 k2 k3=>
 let A1:=List.getD b0 t32.toNat 0
 ci (t32<t31) (ck (0≤t32∧t32<I b0.length)<|
 ck (t32.toNat<b0.length)<|
 (GP.k A1 k2 k3).bind fun y3=>
 ci (y3.1.1.kind=53) ((D5.k y3.1.1 A1 y3.2.1 y3.2.2.1).bind fun y5=>
 ck (Av (t32+1))<|
 tK.1 t31 (t32+1) b0 b1_0 b1_1 b1_2 b1_3 y5.2.1 y5.2.2.1)<|
 ci (y3.1.1.kind=52) ((D6.k y3.1.1 A1 y3.2.1 y3.2.2.1).bind fun y6=>
 ck (Av (t32+1))<|
 tK.1 t31 (t32+1) b0 b1_0 b1_1 b1_2 b1_3 y6.2.1 y6.2.2.1)<|
 ci (y3.1.1.kind=50) ((DM.k y3.1.1 A1 y3.2.1 y3.2.2.1).bind fun y7=>
 ck (Av (t32+1))<|
 tK.1 t31 (t32+1) b0 b1_0 b1_1 b1_2 b1_3 y7.2.1 y7.2.2.1)<|
 ck (Av (t32+1))<|
 tK.1 t31 (t32+1) b0 b1_0 b1_1 b1_2 b1_3 y3.2.1 y3.2.2.1)<|
 tK.2.1 b0 (I b0.length) 0 b1_0 b1_1 b1_2 b1_3 k2 k3
def OS.kB (tK:Gp.KT):OS.T:=fun t60 t61 t62 b0_0 b0_1 b0_2 b0_3 k1 k2=>
 let A2:=List.getD t60 t62.toNat 0
 let A1:=tK.2.2.1 b0_0 b0_1 b0_2 b0_3 ((CH.E7 (CH.Wr k1 10) 0)) k2
 ci (t62<t61) (ck (0≤t62∧t62<I t60.length)<|
 ck (t62.toNat<t60.length)<|
 (GP.k A2 k1 k2).bind fun y3=>
 ci (y3.1.1.kind=50) (ci (CH.e y3.2.1=0) ((Dp.k y3.1.1 A2 y3.2.1 y3.2.2.1).bind fun y6=>
 ck (Av (t62+1))<|
 tK.2.1 t60 t61 (t62+1) b0_0 b0_1 b0_2 b0_3 ((y6.2.1.1,(),y6.2.1.2.2.1,y6.2.1.2.2.2.1,y6.2.1.2.2.2.2.1,y6.2.1.2.2.2.2.2.1,y6.2.1.2.2.2.2.2.2.1,y6.2.1.2.2.2.2.2.2.2.1,y6.2.1.2.2.2.2.2.2.2.2.1,(),y6.2.1.2.2.2.2.2.2.2.2.2.2.1,y6.2.1.2.2.2.2.2.2.2.2.2.2.2.1,(),(),y6.2.1.2.2.2.2.2.2.2.2.2.2.2.2.2.2.1,y6.2.1.2.2.2.2.2.2.2.2.2.2.2.2.2.2.2.1,y6.2.1.2.2.2.2.2.2.2.2.2.2.2.2.2.2.2.2.1,y6.2.1.2.2.2.2.2.2.2.2.2.2.2.2.2.2.2.2.2.1,y6.2.1.2.2.2.2.2.2.2.2.2.2.2.2.2.2.2.2.2.2.1,())) y6.2.2.1)<|
 ck (Av (t62+1))<|
 tK.2.1 t60 t61 (t62+1) b0_0 b0_1 b0_2 b0_3 y3.2.1 y3.2.2.1)<|
 ck (Av (t62+1))<|
 tK.2.1 t60 t61 (t62+1) b0_0 b0_1 b0_2 b0_3 y3.2.1 y3.2.2.1)<|
 ci (k1.e=0) (ci (!(AL k1.sigs ([109,97,105,110]:List UInt8)).isSome) A1<|
 ci (0<I ((AL k1.sigs ([109,97,105,110]:List UInt8)).getD Dop.d15).params.length) A1<|
 ci (!(((AL k1.sigs ([109,97,105,110]:List UInt8)).getD Dop.d15).BO=1)) A1<|
 tK.2.2.1 b0_0 b0_1 b0_2 b0_3 k1 k2)<|
 tK.2.2.1 b0_0 b0_1 b0_2 b0_3 k1 k2
def OT.kB (tK:Gp.KT):OT.T:=fun b0_0 b0_1 b0_2 b0_3 k1 k2=>
 ci (!(k1.e=0)) (S0 (Dop.UM.mk [] [] 0 []) k1.when k1.e)<|
 S0 (Dop.UM.mk k1.funcs k1.globals k1.top k1.nodes) 0 0
def Gp.kS (tK:Gp.KT):Gp.KT:=(Sb.kB tK,OS.kB tK,OT.kB tK,())
def Gp.kL (n:Nat):Gp.KT:=Eu Gp.kS n
def Gp.k0 (tK:Gp.KT) (o:Dop.FV):QV Dop.UM Int Int:=
 (JM.k).bind fun y2=>
 (F5.k o o.top).bind fun y3=>
 tK.1 (I y3.1.1.length) 0 y3.1.1 [] [] 0 [] ((o,(),[],[],[],1,[],([]:List (List UInt8×Dop.B3))::[],([]:List (List UInt8×Dop.Nb)),(),Dop.Db.mk [] 0 0 0 0,0,(),(),0,[],0,0,0,())) y2.2.1
def Gp.k (o:Dop.FV):QV Dop.UM Int Int:=Gp.k0 (Gp.kL 1000000) o
def Gp.Kc:=kd 42 Gp.p fun x=>Gp.k x.1.1
theorem Gp.Kh:Gp.Kc.Holds prog:=GG AJ (hc JM.Kh (hc F5.Kh (hc GP.Kh (hc D5.Kh (hc D6.Kh (hc DM.Kh (hc Dp.Kh hn))))))) Gp.ok (fun t x=>Gp.k0 t x.1.1) (fun c=>(fun t31 t32 b0 b1_0 b1_1 b1_2 b1_3 k2 k3=>c 5 Gp.q5 rfl (((),(),(),(),t31,t32,()),((b0,()),(b1_0,b1_1,b1_2,b1_3,()),k2,k3,())),fun t60 t61 t62 b0_0 b0_1 b0_2 b0_3 k1 k2=>c 17 Gp.hS rfl (((),(),t60,t61,t62,()),((b0_0,b0_1,b0_2,b0_3,()),k1,k2,())),fun b0_0 b0_1 b0_2 b0_3 k1 k2=>c 26 Gp.iA rfl (((),(),()),((b0_0,b0_1,b0_2,b0_3,()),k1,k2,())),())) Gp.kS (by kernel_rfl)
def m18.k (s:List UInt8):QV Dop.UM Int Int:=
 (Vx.k s).bind fun y2=>
 ci (!(y2.1.2.2.1=0)) (S0 (Dop.UM.mk [] [] 0 []) y2.1.2.1 y2.1.2.2.1)<|
 (Gp.k y2.1.1).bind hO
def m18.Kc:=kd 18 m18.p fun x=>m18.k x.1.1
theorem m18.Kh:m18.Kc.Holds prog:=kh AJ (hc Vx.Kh (hc Gp.Kh hn)) m18.ok (by kernel_rfl)
end
end Go.Proofs.Tryz
/- Functions in plain words (what their equations say), and their contracts. Written by a program. -/
set_option maxRecDepth 100000
set_option maxHeartbeats 4000000
namespace Go.Proofs.Tryz
open Go Go.En
noncomputable section
def Vz.k (f:Dop.Db) (b0:List UInt8):R1 Bool (List UInt8×Unit):=
 Cs (decide (f.name=b0)) (b0,())
def Vz.Kc:=kd 55 Vz.p fun x=>Vz.k x.1.1 x.2.1.1
theorem Vz.Kh:Vz.Kc.Holds prog:=kh AJ hn Vz.ok (by kernel_rfl)
abbrev I6.T:Type:=List Dop.Db→Int→Int→List UInt8→R1 Int (List UInt8×Unit)
abbrev BG.KT:Type:=I6.T×Unit
def I6.kB (tK:BG.KT):I6.T:=fun s t7 t8 b0=>
 ci (t8<t7) (ck (0≤t8∧t8<I s.length)<|
 (Vz.k (List.getD s t8.toNat Dop.d11) b0).bind fun y3=>
 ci y3.1.1 (Cs t8 (y3.2.1.1,()))<|
 ck (Av (t8+1))<|
 tK.1 s t7 (t8+1) y3.2.1.1)<|
 Cs (-1) (b0,())
def BG.kS (tK:BG.KT):BG.KT:=(I6.kB tK,())
def BG.kL (n:Nat):BG.KT:=Eu BG.kS n
def BG.k0 (tK:BG.KT) (s:List Dop.Db) (b0:List UInt8):R1 Int (List UInt8×Unit):=
 tK.1 s (I s.length) 0 b0
def BG.k (s:List Dop.Db) (b0:List UInt8):R1 Int (List UInt8×Unit):=BG.k0 (BG.kL 1000000) s b0
def BG.Kc:=kd 54 BG.p fun x=>BG.k x.1.1 x.2.1.1
theorem BG.Kh:BG.Kc.Holds prog:=GG AJ (hc Vz.Kh hn) BG.ok (fun t x=>BG.k0 t x.1.1 x.2.1.1) (fun c=>(fun s t7 t8 b0=>c 2 BG.q2 rfl ((s,(),t7,t8,()),((b0,()),())),())) BG.kS (by kernel_rfl)
def Vw.k (p:Dop.UM) (name:List UInt8):Gh Int:=
 (BG.k p.funcs name).bind iT
def Vw.Kc:=kd 25 Vw.p fun x=>Vw.k x.1.1 x.1.2.1
theorem Vw.Kh:Vw.Kc.Holds prog:=kh AJ (hc BG.Kh hn) Vw.ok (by kernel_rfl)
def m17.k :Gh Bool:=
 (m18.k ([105,110,116,32,103,59,32,105,110,116,32,109,97,105,110,40,41,123,105,110,116,32,97,59,97,61,50,59,114,101,116,117,114,110,32,97,59,125]:List UInt8)).bind fun y2=>
 ci (y2.1.2.2.1=0) (ci (I y2.1.1.funcs.length=1) (ci (y2.1.1.top=2) (ck ((0:Int)≤0∧0<I y2.1.1.funcs.length)<|
 ci ((List.getD y2.1.1.funcs (Int.toNat 0) Dop.d11).BH=1) ((Vw.k y2.1.1 ([109,97,105,110]:List UInt8)).bind fun y7=>
 Fx (decide (y7.1.1=0)))<|
 Fx false)<|
 Fx false)<|
 Fx false)<|
 Fx false
def m17.Kc:=kd 17 m17.p fun x=>m17.k
theorem m17.Kh:m17.Kc.Holds prog:=kh AJ (hc m18.Kh (hc Vw.Kh hn)) m17.ok (by kernel_rfl)
end
end Go.Proofs.Tryz
/- The awakes of layers 5 and 6, run by the kernel: contracts without a question. -/
set_option maxRecDepth 10000000
namespace Go.En
theorem XW {S:Aj} {P:Program} {f bn:Nat} {sp rs:Spec} {flat:Bool} {m:sp.D S→Option (rs.D S)} {g:sp.D S→rs.D S} (h:Bw.Holds P ⟨f,bn,sp,rs,flat,.opt m⟩) (hm: ∀ x,m x=some (g x)):Bw.Holds P ⟨f,bn,sp,rs,flat,.dG g⟩:=
 ⟨h.Bk,h.bound,h.flat,fun x y hxy=>h.calls x y (by show m x=some y;rw [hm];exact congrArg some hxy)⟩
end Go.En
namespace Go.Proofs
open Go Go.En
theorem Tryz.UT.run:Tryz.m17.k=some ((true,()),()):=by kernel_rfl
def Tryz.UT.c:Bw En.Dop.D4:=⟨17,0,⟨[],[]⟩,⟨[.fd .bool],[]⟩,true,.dG fun _=>((true,()),())⟩
theorem Tryz.UT.holds:Tryz.UT.c.Holds Tryz.prog:=XW Tryz.m17.Kh fun _=>Tryz.UT.run
end Go.Proofs
/- Functions of the seat, lifted: plan, model, contract, equations. Written by a program (Lift) that ran the layer's evaluation; Lean checks each line. -/
set_option maxRecDepth 100000
set_option maxHeartbeats 4000000
namespace Go.Proofs.Tryz
open Go Go.En
def m22.p:Ak:=⟨[],0,⟨[.fd (.int .i64)],[]⟩,⟨[.fd .bool],[]⟩,true,[],[]⟩
theorem m22.ok:AH Dop.D4 prog 22 m22.p=true:=by kernel_rfl
def m23.p:Ak:=⟨[],0,⟨[.fd (.int .i64)],[]⟩,⟨[.fd .bool],[]⟩,true,[],[]⟩
theorem m23.ok:AH Dop.D4 prog 23 m23.p=true:=by kernel_rfl
def m24.p:Ak:=⟨[],0,⟨[.fd (.int .i64)],[]⟩,⟨[.fd (.int .i64)],[]⟩,true,[],[]⟩
theorem m24.ok:AH Dop.D4 prog 24 m24.p=true:=by kernel_rfl
@[reducible] def m5.hZ:Cut:=⟨[[0,0,1,1,1,1,1,1,1,1,1,1,1],[0,1,1,1,1,1,1,1,1,1,1,1,1]],[15,19],0,⟨[.fd (.int .i64),.fd .bool],[]⟩⟩
def m5.p:Ak:=⟨[(22,m5.hZ)],0,⟨[.fd (.int .u8),.fd (.int .u8),.fd (.int .u8)],[]⟩,⟨[.fd .bool],[]⟩,true,[(4,⟨[(0,true),(1,true),(2,false),(3,false),(4,false),(5,true),(6,true),(7,true),(8,true),(9,false),(10,false),(11,false),(12,true),(13,true),(14,true),(15,true),(16,false),(17,false),(18,true),(19,true),(20,true)],[],[0,0,3,7,15,31,63,0,0,384,896,1951,4095,8191,0,0,49152,114688,262143,524287,1048575],false⟩)],[]⟩
theorem m5.ok:AH Dop.D4 prog 5 m5.p=true:=by kernel_rfl
end Go.Proofs.Tryz
