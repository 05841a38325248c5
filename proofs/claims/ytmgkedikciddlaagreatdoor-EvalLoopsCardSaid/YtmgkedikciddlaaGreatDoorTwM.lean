/-
 Functions in plain words (what their equations say), and their contracts. Written by a program.
-/
import Derived.Test.YtmgkedikciddlaaGreatDoorTwL
import Derived.Test.YtmgkedikciddlaaGreatDoorMo
set_option linter.all false
set_option maxRecDepth 100000
set_option maxHeartbeats 4000000
namespace Go.Proofs.Tryz
open Go Go.En
noncomputable section
def Ik.k (t1:List UInt8) (t2 t3:Int) (t4:Bool) (k0:CK) (k1:CT):Wc Dop.CI Bool CK CT:=
 let A4:=BI (k0.f.Ai+(1:Int) -1)
 let A3:=Dop.DE.mk k0.f.name k0.f.params (k0.f.Ai+1) k0.f.frame k0.f.body
 let A2:=Dop.CI.mk 2 (k0.f.Ai+(1:Int) -1) t2
 let A1:=Dop.CI.mk 3 k0.f.frame t2
 let F3:mI Dop.Ab (List Dop.Ab×List Dop.HM×Int×Unit×List Int×List Dop.DE×List Dop.MW×Int×List Dop.Ab×Unit×List (List UInt8×Dop.OF)×List (List UInt8×Int)×List UInt8×Int×Int×Int×Int×Int×List (List UInt8×Int)×List (List UInt8×Int)×Int×List (List (Int×Int))×Int×Int×Int×Unit) CT (List (List (List UInt8×Dop.CI))×Unit)->Wc Dop.CI Bool CK CT:=fun y9=>
 R9 (Dop.CI.mk 0 0 0) false (Dop.FM.mk y9.2.1.1 y9.2.1.2.1 y9.2.1.2.2.1,(),y9.2.1.2.2.2.2.1,y9.2.1.2.2.2.2.2.1,y9.2.1.2.2.2.2.2.2.1,y9.2.1.2.2.2.2.2.2.2.1,y9.2.1.2.2.2.2.2.2.2.2.1,y9.2.2.2.1.1,y9.2.1.2.2.2.2.2.2.2.2.2.2.1,y9.2.1.2.2.2.2.2.2.2.2.2.2.2.1,Dop.DE.mk y9.2.1.2.2.2.2.2.2.2.2.2.2.2.2.1 y9.2.1.2.2.2.2.2.2.2.2.2.2.2.2.2.1 y9.2.1.2.2.2.2.2.2.2.2.2.2.2.2.2.2.1 y9.2.1.2.2.2.2.2.2.2.2.2.2.2.2.2.2.2.1 y9.2.1.2.2.2.2.2.2.2.2.2.2.2.2.2.2.2.2.1,y9.2.1.2.2.2.2.2.2.2.2.2.2.2.2.2.2.2.2.2.1,y9.2.1.2.2.2.2.2.2.2.2.2.2.2.2.2.2.2.2.2.2.1,y9.2.1.2.2.2.2.2.2.2.2.2.2.2.2.2.2.2.2.2.2.2.1,y9.2.1.2.2.2.2.2.2.2.2.2.2.2.2.2.2.2.2.2.2.2.2.1,y9.2.1.2.2.2.2.2.2.2.2.2.2.2.2.2.2.2.2.2.2.2.2.2.1,y9.2.1.2.2.2.2.2.2.2.2.2.2.2.2.2.2.2.2.2.2.2.2.2.2.1,8,y9.1.1.at_,()) y9.2.2.1
 let F2:mI Dop.Ab (List Dop.Ab×List Dop.HM×Int×Unit×List Int×List Dop.DE×List Dop.MW×Int×List Dop.Ab×Unit×List (List UInt8×Dop.OF)×List (List UInt8×Int)×List UInt8×Int×Int×Int×Int×Int×List (List UInt8×Int)×List (List UInt8×Int)×Int×List (List (Int×Int))×Int×Int×Int×Unit) CT (List (List (List UInt8×Dop.CI))×Unit)->Wc Dop.CI Bool CK CT:=fun y11=>
 ck ((I k0.names.length -1).toNat<y11.2.2.2.1.1.length)<|
 R9 (Dop.CI.mk 2 0 t2) (decide ((4:Int)=0)) (Dop.FM.mk y11.2.1.1 y11.2.1.2.1 y11.2.1.2.2.1,(),y11.2.1.2.2.2.2.1,y11.2.1.2.2.2.2.2.1,y11.2.1.2.2.2.2.2.2.1,y11.2.1.2.2.2.2.2.2.2.1,y11.2.1.2.2.2.2.2.2.2.2.1,y11.2.2.2.1.1.set (I k0.names.length -1).toNat (B9 (List.getD y11.2.2.2.1.1 (I k0.names.length -1).toNat (([]:List (List UInt8×Dop.CI)))) t1 (Dop.CI.mk 2 0 t2)),y11.2.1.2.2.2.2.2.2.2.2.2.2.1,y11.2.1.2.2.2.2.2.2.2.2.2.2.2.1,Dop.DE.mk y11.2.1.2.2.2.2.2.2.2.2.2.2.2.2.1 y11.2.1.2.2.2.2.2.2.2.2.2.2.2.2.2.1 y11.2.1.2.2.2.2.2.2.2.2.2.2.2.2.2.2.1 y11.2.1.2.2.2.2.2.2.2.2.2.2.2.2.2.2.2.1 y11.2.1.2.2.2.2.2.2.2.2.2.2.2.2.2.2.2.2.1,y11.2.1.2.2.2.2.2.2.2.2.2.2.2.2.2.2.2.2.2.1,y11.2.1.2.2.2.2.2.2.2.2.2.2.2.2.2.2.2.2.2.2.1,y11.2.1.2.2.2.2.2.2.2.2.2.2.2.2.2.2.2.2.2.2.2.1,y11.2.1.2.2.2.2.2.2.2.2.2.2.2.2.2.2.2.2.2.2.2.2.1,y11.2.1.2.2.2.2.2.2.2.2.2.2.2.2.2.2.2.2.2.2.2.2.2.1,y11.2.1.2.2.2.2.2.2.2.2.2.2.2.2.2.2.2.2.2.2.2.2.2.2.1,4,y11.1.1.at_,()) y11.2.2.1
 let F1:mI Dop.Ab (List Dop.Ab×List Dop.HM×Int×Unit×List Int×List Dop.DE×List Dop.MW×Int×List Dop.Ab×Unit×List (List UInt8×Dop.OF)×List (List UInt8×Int)×List UInt8×Int×Int×Int×Int×Int×List (List UInt8×Int)×List (List UInt8×Int)×Int×List (List (Int×Int))×Int×Int×Int×Unit) CT (List (List (List UInt8×Dop.CI))×Unit)->Wc Dop.CI Bool CK CT:=fun y10=>
 ck ((I k0.names.length -1).toNat<y10.2.2.2.1.1.length)<|
 R9 A1 (decide ((4:Int)=0)) (Dop.FM.mk y10.2.1.1 y10.2.1.2.1 y10.2.1.2.2.1,(),y10.2.1.2.2.2.2.1,y10.2.1.2.2.2.2.2.1,y10.2.1.2.2.2.2.2.2.1,y10.2.1.2.2.2.2.2.2.2.1,y10.2.1.2.2.2.2.2.2.2.2.1,y10.2.2.2.1.1.set (I k0.names.length -1).toNat (B9 (List.getD y10.2.2.2.1.1 (I k0.names.length -1).toNat (([]:List (List UInt8×Dop.CI)))) t1 A1),y10.2.1.2.2.2.2.2.2.2.2.2.2.1,y10.2.1.2.2.2.2.2.2.2.2.2.2.2.1,Dop.DE.mk y10.2.1.2.2.2.2.2.2.2.2.2.2.2.2.1 y10.2.1.2.2.2.2.2.2.2.2.2.2.2.2.2.1 y10.2.1.2.2.2.2.2.2.2.2.2.2.2.2.2.2.1 y10.2.1.2.2.2.2.2.2.2.2.2.2.2.2.2.2.2.1 y10.2.1.2.2.2.2.2.2.2.2.2.2.2.2.2.2.2.2.1,y10.2.1.2.2.2.2.2.2.2.2.2.2.2.2.2.2.2.2.2.1,y10.2.1.2.2.2.2.2.2.2.2.2.2.2.2.2.2.2.2.2.2.1,y10.2.1.2.2.2.2.2.2.2.2.2.2.2.2.2.2.2.2.2.2.2.1,y10.2.1.2.2.2.2.2.2.2.2.2.2.2.2.2.2.2.2.2.2.2.2.1,y10.2.1.2.2.2.2.2.2.2.2.2.2.2.2.2.2.2.2.2.2.2.2.2.1,y10.2.1.2.2.2.2.2.2.2.2.2.2.2.2.2.2.2.2.2.2.2.2.2.2.1,4,y10.1.1.at_,()) y10.2.2.1
 (Bh.k t2 k1).bind fun y2=>
 ck (BI (I k0.names.length -1))<|
 ck (0<=I k0.names.length -1/\I k0.names.length -1<I k0.names.length)<|
 ck ((I k0.names.length -1).toNat<k0.names.length)<|
 ck ((I k0.names.length -1).toNat<k0.names.length)<|
 ci ((AO (List.getD k0.names (I k0.names.length -1).toNat (([]:List (List UInt8×Dop.CI)))) t1).isSome) (ci (k0.e=0) ((H0.k t3 k0.t k0.num k0.funcs k0.globals k0.top k0.nodes k0.sigs k0.taken k0.f k0.DR k0.labels k0.gotos k0.loops k0.MR k0.Jd k0.e k0.when y2.2.1 k0.names).bind fun y5=>
 R9 (Dop.CI.mk 0 0 0) false (Dop.FM.mk y5.2.1.1 y5.2.1.2.1 y5.2.1.2.2.1,(),y5.2.1.2.2.2.2.1,y5.2.1.2.2.2.2.2.1,y5.2.1.2.2.2.2.2.2.1,y5.2.1.2.2.2.2.2.2.2.1,y5.2.1.2.2.2.2.2.2.2.2.1,y5.2.2.2.1.1,y5.2.1.2.2.2.2.2.2.2.2.2.2.1,y5.2.1.2.2.2.2.2.2.2.2.2.2.2.1,Dop.DE.mk y5.2.1.2.2.2.2.2.2.2.2.2.2.2.2.1 y5.2.1.2.2.2.2.2.2.2.2.2.2.2.2.2.1 y5.2.1.2.2.2.2.2.2.2.2.2.2.2.2.2.2.1 y5.2.1.2.2.2.2.2.2.2.2.2.2.2.2.2.2.2.1 y5.2.1.2.2.2.2.2.2.2.2.2.2.2.2.2.2.2.2.1,y5.2.1.2.2.2.2.2.2.2.2.2.2.2.2.2.2.2.2.2.1,y5.2.1.2.2.2.2.2.2.2.2.2.2.2.2.2.2.2.2.2.2.1,y5.2.1.2.2.2.2.2.2.2.2.2.2.2.2.2.2.2.2.2.2.2.1,y5.2.1.2.2.2.2.2.2.2.2.2.2.2.2.2.2.2.2.2.2.2.2.1,y5.2.1.2.2.2.2.2.2.2.2.2.2.2.2.2.2.2.2.2.2.2.2.2.1,y5.2.1.2.2.2.2.2.2.2.2.2.2.2.2.2.2.2.2.2.2.2.2.2.2.1,7,y5.1.1.at_,()) y5.2.2.1)<|
 R9 (Dop.CI.mk 0 0 0) false k0 y2.2.1)<|
 ci (!y2.1.2.1) (ci (k0.e=0) ((H0.k t3 k0.t k0.num k0.funcs k0.globals k0.top k0.nodes k0.sigs k0.taken k0.f k0.DR k0.labels k0.gotos k0.loops k0.MR k0.Jd k0.e k0.when y2.2.1 k0.names).bind F3)<|
 R9 (Dop.CI.mk 0 0 0) false k0 y2.2.1)<|
 ci t4 ((De.k t2 y2.2.1).bind fun y6=>
 ci (!y6.1.1) (ci (k0.e=0) ((H0.k t3 k0.t k0.num k0.funcs k0.globals k0.top k0.nodes k0.sigs k0.taken k0.f k0.DR k0.labels k0.gotos k0.loops k0.MR k0.Jd k0.e k0.when y6.2.1 k0.names).bind F3)<|
 R9 (Dop.CI.mk 0 0 0) false k0 y6.2.1)<|
 (De.k t2 y6.2.1).bind fun y8=>
 let z1:Wc Dop.CI Bool CK CT:=
 let z2:Wc Dop.CI Bool CK CT:=
 ck ((I k0.names.length -1).toNat<k0.names.length)<|
 R9 A1 (decide (k0.e=0)) (CK.ZV (CK.Cc k0 (k0.names.set (I k0.names.length -1).toNat (B9 (List.getD k0.names (I k0.names.length -1).toNat (([]:List (List UInt8×Dop.CI)))) t1 A1))) (Dop.DE.mk k0.f.name k0.f.params k0.f.Ai (k0.f.frame+y2.1.1) k0.f.body)) y8.2.1
 ck (BI (k0.f.frame+y2.1.1))<|
 ci (4096<k0.f.frame+y2.1.1) (ci (k0.e=0) ((H0.k t3 k0.t k0.num k0.funcs k0.globals k0.top k0.nodes k0.sigs k0.taken (Dop.DE.mk k0.f.name k0.f.params k0.f.Ai (k0.f.frame+y2.1.1) k0.f.body) k0.DR k0.labels k0.gotos k0.loops k0.MR k0.Jd k0.e k0.when y8.2.1 k0.names).bind F1)<|
 z2)<|
 z2
 ci y8.1.1 (ci ((AO k0.taken t1).getD (0:Int)=0) (ci (k0.f.Ai=4096) (ci (k0.e=0) ((H0.k t3 k0.t k0.num k0.funcs k0.globals k0.top k0.nodes k0.sigs k0.taken k0.f k0.DR k0.labels k0.gotos k0.loops k0.MR k0.Jd k0.e k0.when y8.2.1 k0.names).bind F2)<|
 ck ((I k0.names.length -1).toNat<k0.names.length)<|
 R9 (Dop.CI.mk 2 0 t2) (decide (k0.e=0)) (CK.Cc k0 (k0.names.set (I k0.names.length -1).toNat (B9 (List.getD k0.names (I k0.names.length -1).toNat (([]:List (List UInt8×Dop.CI)))) t1 (Dop.CI.mk 2 0 t2)))) y8.2.1)<|
 ck (BI (k0.f.Ai+1))<|
 ck A4<|
 ck ((I k0.names.length -1).toNat<k0.names.length)<|
 R9 A2 (decide (k0.e=0)) (CK.ZV (CK.Cc k0 (k0.names.set (I k0.names.length -1).toNat (B9 (List.getD k0.names (I k0.names.length -1).toNat (([]:List (List UInt8×Dop.CI)))) t1 A2))) A3) y8.2.1)<|
 z1)<|
 z1)<|
 (De.k t2 y2.2.1).bind fun y6=>
 let z3:Wc Dop.CI Bool CK CT:=
 let z4:Wc Dop.CI Bool CK CT:=
 ck ((I k0.names.length -1).toNat<k0.names.length)<|
 R9 A1 (decide (k0.e=0)) (CK.ZV (CK.Cc k0 (k0.names.set (I k0.names.length -1).toNat (B9 (List.getD k0.names (I k0.names.length -1).toNat (([]:List (List UInt8×Dop.CI)))) t1 A1))) (Dop.DE.mk k0.f.name k0.f.params k0.f.Ai (k0.f.frame+y2.1.1) k0.f.body)) y6.2.1
 ck (BI (k0.f.frame+y2.1.1))<|
 ci (4096<k0.f.frame+y2.1.1) (ci (k0.e=0) ((H0.k t3 k0.t k0.num k0.funcs k0.globals k0.top k0.nodes k0.sigs k0.taken (Dop.DE.mk k0.f.name k0.f.params k0.f.Ai (k0.f.frame+y2.1.1) k0.f.body) k0.DR k0.labels k0.gotos k0.loops k0.MR k0.Jd k0.e k0.when y6.2.1 k0.names).bind F1)<|
 z4)<|
 z4
 ci y6.1.1 (ci ((AO k0.taken t1).getD (0:Int)=0) (ci (k0.f.Ai=4096) (ci (k0.e=0) ((H0.k t3 k0.t k0.num k0.funcs k0.globals k0.top k0.nodes k0.sigs k0.taken k0.f k0.DR k0.labels k0.gotos k0.loops k0.MR k0.Jd k0.e k0.when y6.2.1 k0.names).bind F2)<|
 ck ((I k0.names.length -1).toNat<k0.names.length)<|
 R9 (Dop.CI.mk 2 0 t2) (decide (k0.e=0)) (CK.Cc k0 (k0.names.set (I k0.names.length -1).toNat (B9 (List.getD k0.names (I k0.names.length -1).toNat (([]:List (List UInt8×Dop.CI)))) t1 (Dop.CI.mk 2 0 t2)))) y6.2.1)<|
 ck (BI (k0.f.Ai+1))<|
 ck A4<|
 ck ((I k0.names.length -1).toNat<k0.names.length)<|
 R9 A2 (decide (k0.e=0)) (CK.ZV (CK.Cc k0 (k0.names.set (I k0.names.length -1).toNat (B9 (List.getD k0.names (I k0.names.length -1).toNat (([]:List (List UInt8×Dop.CI)))) t1 A2))) A3) y6.2.1)<|
 z3)<|
 z3
def Ik.Kc:=kd 55 Ik.p fun x=>Ik.k x.1.2.1 x.1.2.2.1 x.1.2.2.2.1 x.1.2.2.2.2.1 x.2.1 x.2.2.1
theorem Ik.Kh:Ik.Kc.Holds prog:=kh AI (hc Bh.Ip (hc De.Kh (hc Az.Kh (hc H0.Kh hn)))) Ik.ok (by kernel_rfl)
abbrev Cm.kr (r:GI.T) (n:Int) (k0:CK) (k1:CT):Sd CK CT:=r.1 (((),n,()),(k0,k1,()))
abbrev QF.T:Type:=Dop.iC->Int->CK->CT->Sd CK CT
abbrev Cm.KT:Type:=QF.T×Unit
def QF.kB (rK:GI.T) (tK:Cm.KT):QF.T:=fun t45 t46 k0 k1=>
 ci (t46<4) (ck (0<=t46/\t46<I 4)<|
 ci (0<=(t45.x0::t45.x1::t45.x2::t45.x3::[]).getD t46.toNat 0) ((Cm.kr rK ((t45.x0::t45.x1::t45.x2::t45.x3::[]).getD t46.toNat 0) k0 k1).bind fun y4=>
 ck (BI (t46+1))<|
 tK.1 t45 (t46+1) y4.2.1 y4.2.2.1)<|
 ck (BI (t46+1))<|
 tK.1 t45 (t46+1) k0 k1)<|
 iO k0 k1
def Cm.kS (rK:GI.T) (tK:Cm.KT):Cm.KT:=(QF.kB rK tK,())
def Cm.kL (rK:GI.T) (n:Nat):Cm.KT:=Bp (Cm.kS rK) n
def Cm.k0 (rK:GI.T) (tK:Cm.KT) (n:Int) (k0:CK) (k1:CT):Sd CK CT:=
 (C4.k n k0.t k0.num k0.funcs k0.globals k0.top k0.nodes k0.names k0.sigs k0.f k0.DR k0.loops k0.MR k0.Jd k0.e k0.when k1).bind fun y2=>
 ci (y2.1.1.kind=3) (ci (y2.1.1.text=(38:UInt8)::[]) ((C4.k y2.1.1.a (Dop.FM.mk y2.2.1.1 y2.2.1.2.1 y2.2.1.2.2.1) y2.2.1.2.2.2.2.1 y2.2.1.2.2.2.2.2.1 y2.2.1.2.2.2.2.2.2.1 y2.2.1.2.2.2.2.2.2.2.1 y2.2.1.2.2.2.2.2.2.2.2.1 y2.2.1.2.2.2.2.2.2.2.2.2.1 y2.2.1.2.2.2.2.2.2.2.2.2.2.1 (Dop.DE.mk y2.2.1.2.2.2.2.2.2.2.2.2.2.2.2.1 y2.2.1.2.2.2.2.2.2.2.2.2.2.2.2.2.1 y2.2.1.2.2.2.2.2.2.2.2.2.2.2.2.2.2.1 y2.2.1.2.2.2.2.2.2.2.2.2.2.2.2.2.2.2.1 y2.2.1.2.2.2.2.2.2.2.2.2.2.2.2.2.2.2.2.1) y2.2.1.2.2.2.2.2.2.2.2.2.2.2.2.2.2.2.2.2.1 y2.2.1.2.2.2.2.2.2.2.2.2.2.2.2.2.2.2.2.2.2.2.2.1 y2.2.1.2.2.2.2.2.2.2.2.2.2.2.2.2.2.2.2.2.2.2.2.2.1 y2.2.1.2.2.2.2.2.2.2.2.2.2.2.2.2.2.2.2.2.2.2.2.2.2.1 y2.2.1.2.2.2.2.2.2.2.2.2.2.2.2.2.2.2.2.2.2.2.2.2.2.2.1 y2.2.1.2.2.2.2.2.2.2.2.2.2.2.2.2.2.2.2.2.2.2.2.2.2.2.2.1 y2.2.2.1).bind fun y5=>
 ci (y5.1.1.kind=2) ((C4.k y2.1.1.a (Dop.FM.mk y5.2.1.1 y5.2.1.2.1 y5.2.1.2.2.1) y5.2.1.2.2.2.2.1 y5.2.1.2.2.2.2.2.1 y5.2.1.2.2.2.2.2.2.1 y5.2.1.2.2.2.2.2.2.2.1 y5.2.1.2.2.2.2.2.2.2.2.1 y5.2.1.2.2.2.2.2.2.2.2.2.1 y5.2.1.2.2.2.2.2.2.2.2.2.2.1 (Dop.DE.mk y5.2.1.2.2.2.2.2.2.2.2.2.2.2.2.1 y5.2.1.2.2.2.2.2.2.2.2.2.2.2.2.2.1 y5.2.1.2.2.2.2.2.2.2.2.2.2.2.2.2.2.1 y5.2.1.2.2.2.2.2.2.2.2.2.2.2.2.2.2.2.1 y5.2.1.2.2.2.2.2.2.2.2.2.2.2.2.2.2.2.2.1) y5.2.1.2.2.2.2.2.2.2.2.2.2.2.2.2.2.2.2.2.1 y5.2.1.2.2.2.2.2.2.2.2.2.2.2.2.2.2.2.2.2.2.2.2.1 y5.2.1.2.2.2.2.2.2.2.2.2.2.2.2.2.2.2.2.2.2.2.2.2.1 y5.2.1.2.2.2.2.2.2.2.2.2.2.2.2.2.2.2.2.2.2.2.2.2.2.1 y5.2.1.2.2.2.2.2.2.2.2.2.2.2.2.2.2.2.2.2.2.2.2.2.2.2.1 y5.2.1.2.2.2.2.2.2.2.2.2.2.2.2.2.2.2.2.2.2.2.2.2.2.2.2.1 y5.2.2.1).bind fun y7=>
 ck (BI ((AO k0.taken y7.1.1.text).getD (0:Int)+1))<|
 tK.1 (Dop.iC.mk y2.1.1.a y2.1.1.b y2.1.1.c y2.1.1.d) 0 ((CK.Fj (CK.ZU (CK.LW (CK.O8 (CK.Ig (CK.MP (CK.ZV (CK.cR (CK.JY (CK.Cc (CK.FK (CK.VL (CK.Ie (CK.KK (CK.N2 (CK.mD k0 (Dop.FM.mk y7.2.1.1 y7.2.1.2.1 y7.2.1.2.2.1)) y7.2.1.2.2.2.2.1) y7.2.1.2.2.2.2.2.1) y7.2.1.2.2.2.2.2.2.1) y7.2.1.2.2.2.2.2.2.2.1) y7.2.1.2.2.2.2.2.2.2.2.1) y7.2.1.2.2.2.2.2.2.2.2.2.1) y7.2.1.2.2.2.2.2.2.2.2.2.2.1) (B9 k0.taken y7.1.1.text ((AO k0.taken y7.1.1.text).getD (0:Int)+1))) (Dop.DE.mk y7.2.1.2.2.2.2.2.2.2.2.2.2.2.2.1 y7.2.1.2.2.2.2.2.2.2.2.2.2.2.2.2.1 y7.2.1.2.2.2.2.2.2.2.2.2.2.2.2.2.2.1 y7.2.1.2.2.2.2.2.2.2.2.2.2.2.2.2.2.2.1 y7.2.1.2.2.2.2.2.2.2.2.2.2.2.2.2.2.2.2.1)) y7.2.1.2.2.2.2.2.2.2.2.2.2.2.2.2.2.2.2.2.1) y7.2.1.2.2.2.2.2.2.2.2.2.2.2.2.2.2.2.2.2.2.2.2.1) y7.2.1.2.2.2.2.2.2.2.2.2.2.2.2.2.2.2.2.2.2.2.2.2.1) y7.2.1.2.2.2.2.2.2.2.2.2.2.2.2.2.2.2.2.2.2.2.2.2.2.1) y7.2.1.2.2.2.2.2.2.2.2.2.2.2.2.2.2.2.2.2.2.2.2.2.2.2.1) y7.2.1.2.2.2.2.2.2.2.2.2.2.2.2.2.2.2.2.2.2.2.2.2.2.2.2.1)) y7.2.2.1)<|
 tK.1 (Dop.iC.mk y2.1.1.a y2.1.1.b y2.1.1.c y2.1.1.d) 0 ((CK.Fj (CK.ZU (CK.LW (CK.O8 (CK.Ig (CK.MP (CK.ZV (CK.JY (CK.Cc (CK.FK (CK.VL (CK.Ie (CK.KK (CK.N2 (CK.mD k0 (Dop.FM.mk y5.2.1.1 y5.2.1.2.1 y5.2.1.2.2.1)) y5.2.1.2.2.2.2.1) y5.2.1.2.2.2.2.2.1) y5.2.1.2.2.2.2.2.2.1) y5.2.1.2.2.2.2.2.2.2.1) y5.2.1.2.2.2.2.2.2.2.2.1) y5.2.1.2.2.2.2.2.2.2.2.2.1) y5.2.1.2.2.2.2.2.2.2.2.2.2.1) (Dop.DE.mk y5.2.1.2.2.2.2.2.2.2.2.2.2.2.2.1 y5.2.1.2.2.2.2.2.2.2.2.2.2.2.2.2.1 y5.2.1.2.2.2.2.2.2.2.2.2.2.2.2.2.2.1 y5.2.1.2.2.2.2.2.2.2.2.2.2.2.2.2.2.2.1 y5.2.1.2.2.2.2.2.2.2.2.2.2.2.2.2.2.2.2.1)) y5.2.1.2.2.2.2.2.2.2.2.2.2.2.2.2.2.2.2.2.1) y5.2.1.2.2.2.2.2.2.2.2.2.2.2.2.2.2.2.2.2.2.2.2.1) y5.2.1.2.2.2.2.2.2.2.2.2.2.2.2.2.2.2.2.2.2.2.2.2.1) y5.2.1.2.2.2.2.2.2.2.2.2.2.2.2.2.2.2.2.2.2.2.2.2.2.1) y5.2.1.2.2.2.2.2.2.2.2.2.2.2.2.2.2.2.2.2.2.2.2.2.2.2.1) y5.2.1.2.2.2.2.2.2.2.2.2.2.2.2.2.2.2.2.2.2.2.2.2.2.2.2.1)) y5.2.2.1)<|
 tK.1 (Dop.iC.mk y2.1.1.a y2.1.1.b y2.1.1.c y2.1.1.d) 0 ((CK.Fj (CK.ZU (CK.LW (CK.O8 (CK.Ig (CK.MP (CK.ZV (CK.JY (CK.Cc (CK.FK (CK.VL (CK.Ie (CK.KK (CK.N2 (CK.mD k0 (Dop.FM.mk y2.2.1.1 y2.2.1.2.1 y2.2.1.2.2.1)) y2.2.1.2.2.2.2.1) y2.2.1.2.2.2.2.2.1) y2.2.1.2.2.2.2.2.2.1) y2.2.1.2.2.2.2.2.2.2.1) y2.2.1.2.2.2.2.2.2.2.2.1) y2.2.1.2.2.2.2.2.2.2.2.2.1) y2.2.1.2.2.2.2.2.2.2.2.2.2.1) (Dop.DE.mk y2.2.1.2.2.2.2.2.2.2.2.2.2.2.2.1 y2.2.1.2.2.2.2.2.2.2.2.2.2.2.2.2.1 y2.2.1.2.2.2.2.2.2.2.2.2.2.2.2.2.2.1 y2.2.1.2.2.2.2.2.2.2.2.2.2.2.2.2.2.2.1 y2.2.1.2.2.2.2.2.2.2.2.2.2.2.2.2.2.2.2.1)) y2.2.1.2.2.2.2.2.2.2.2.2.2.2.2.2.2.2.2.2.1) y2.2.1.2.2.2.2.2.2.2.2.2.2.2.2.2.2.2.2.2.2.2.2.1) y2.2.1.2.2.2.2.2.2.2.2.2.2.2.2.2.2.2.2.2.2.2.2.2.1) y2.2.1.2.2.2.2.2.2.2.2.2.2.2.2.2.2.2.2.2.2.2.2.2.2.1) y2.2.1.2.2.2.2.2.2.2.2.2.2.2.2.2.2.2.2.2.2.2.2.2.2.2.1) y2.2.1.2.2.2.2.2.2.2.2.2.2.2.2.2.2.2.2.2.2.2.2.2.2.2.2.1)) y2.2.2.1)<|
 tK.1 (Dop.iC.mk y2.1.1.a y2.1.1.b y2.1.1.c y2.1.1.d) 0 ((CK.Fj (CK.ZU (CK.LW (CK.O8 (CK.Ig (CK.MP (CK.ZV (CK.JY (CK.Cc (CK.FK (CK.VL (CK.Ie (CK.KK (CK.N2 (CK.mD k0 (Dop.FM.mk y2.2.1.1 y2.2.1.2.1 y2.2.1.2.2.1)) y2.2.1.2.2.2.2.1) y2.2.1.2.2.2.2.2.1) y2.2.1.2.2.2.2.2.2.1) y2.2.1.2.2.2.2.2.2.2.1) y2.2.1.2.2.2.2.2.2.2.2.1) y2.2.1.2.2.2.2.2.2.2.2.2.1) y2.2.1.2.2.2.2.2.2.2.2.2.2.1) (Dop.DE.mk y2.2.1.2.2.2.2.2.2.2.2.2.2.2.2.1 y2.2.1.2.2.2.2.2.2.2.2.2.2.2.2.2.1 y2.2.1.2.2.2.2.2.2.2.2.2.2.2.2.2.2.1 y2.2.1.2.2.2.2.2.2.2.2.2.2.2.2.2.2.2.1 y2.2.1.2.2.2.2.2.2.2.2.2.2.2.2.2.2.2.2.1)) y2.2.1.2.2.2.2.2.2.2.2.2.2.2.2.2.2.2.2.2.1) y2.2.1.2.2.2.2.2.2.2.2.2.2.2.2.2.2.2.2.2.2.2.2.1) y2.2.1.2.2.2.2.2.2.2.2.2.2.2.2.2.2.2.2.2.2.2.2.2.1) y2.2.1.2.2.2.2.2.2.2.2.2.2.2.2.2.2.2.2.2.2.2.2.2.2.1) y2.2.1.2.2.2.2.2.2.2.2.2.2.2.2.2.2.2.2.2.2.2.2.2.2.2.1) y2.2.1.2.2.2.2.2.2.2.2.2.2.2.2.2.2.2.2.2.2.2.2.2.2.2.2.1)) y2.2.2.1
def Cm.kf (rK:GI.T) (n:Int) (k0:CK) (k1:CT):Sd CK CT:=Cm.k0 rK (Cm.kL rK 1000000) n k0 k1
def GI.kS (r:GI.T):GI.T:=(fun x=>Cm.kf r x.1.2.1 x.2.1 x.2.2.1,())
def GI.kR (n:Nat):GI.T:=Bp GI.kS n
def Cm.Kc (n:Nat):=kd 54 Cm.p (GI.kR n).1
def Cm.LZ:=Cm.Kc FU
def Cm.k:=Cm.kr (GI.kR FU)
def GI.Si (n:Nat):List (B2 Dop.D4):=[Cm.Kc n]
theorem GI.FD: ∀ n,(Cm.Kc n).Holds prog/\True
 | 0=>⟨AP AI Cm.ok,trivial⟩
 | n+1=>by
  obtain ⟨h0,_⟩:=GI.FD n
  have hh: ∀ c∈GI.Si n,c.Holds prog:=(hc h0 hn)
  exact ⟨Fx AI (Af hh (hc C4.Kh hn)) Cm.ok (fun t x=>Cm.k0 (GI.kR n) t x.1.2.1 x.2.1 x.2.2.1) (fun c=>(fun t45 t46 k0 k1=>c 4 Cm.q4 rfl (((),t45,t46,()),(k0,k1,())),())) (Cm.kS (GI.kR n)) (by kernel_rfl),
   trivial⟩
theorem Cm.Ip:Cm.LZ.Holds prog:=(GI.FD FU).1
def HZ.k (n:Int) (k0:CH) (k1:CT):R2 Dop.Ab CH CT:=
 let A1:=Aa (Dop.Ab.mk 0 (-1) (-1) (-1) (-1) [] 0 0 0) k0 k1
 ci (n<0) A1<|
 ci (I k0.t.nodes.length<=n) A1<|
 ck (0<=n/\n<I k0.t.nodes.length)<|
 Aa (List.getD k0.t.nodes n.toNat Dop.d5) k0 k1
def HZ.Kc:=kd 26 HZ.p fun x=>HZ.k x.1.2.1 x.2.1 x.2.2.1
theorem HZ.Kh:HZ.Kc.Holds prog:=kh AI hn HZ.ok (by kernel_rfl)
def Dd.k (e n:Int) (k0:CH) (k1:CT):R2 Dop.Ag CH CT:=
 let A1:=Dop.Ag.mk (-1) 1 0 0 false
 ci (k0.e=0) ((HZ.k n k0 k1).bind fun y3=>
 Aa A1 (CH.Fj (CH.ZU y3.2.1 e) y3.1.1.at_) y3.2.2.1)<|
 Aa A1 k0 k1
def Dd.Kc:=kd 48 Dd.p fun x=>Dd.k x.1.2.1 x.1.2.2.1 x.2.1 x.2.2.1
theorem Dd.Kh:Dd.Kc.Holds prog:=kh AI (hc HZ.Kh hn) Dd.ok (by kernel_rfl)
abbrev Lw.T:Type:=Int->Int->Int->CH->CT->R2 Int CH CT
abbrev J4.T:Type:=Int->Int->Int->Int->Int->CH->CT->R2 Int CH CT
abbrev BY.KT:Type:=Lw.T×J4.T×Unit
def Lw.kB (tK:BY.KT):Lw.T:=fun t1 t2 t7 k0 k1=>
 let A1:=List.getD k0.t.types t7.toNat Dop.d6
 let A2:=List.getD k0.num A1.elem.toNat 0
 let z1:R2 Int CH CT:=
 ck (0<=t1/\t1<I k0.num.length)<|
 ck (t1.toNat<k0.num.length)<|
 Aa (List.getD k0.num t1.toNat 0) k0 k1
 ci (t7<=t1) (ci (t7<I k0.t.types.length) (ck (0<=t7/\t7<I k0.t.types.length)<|
 ci (A1.kind=4) (ck (0<=A1.elem/\A1.elem<I k0.num.length)<|
 ck (A1.elem.toNat<k0.num.length)<|
 (JI.k A2 k1).bind fun y5=>
 tK.2.1 t1 t2 t7 y5.1.1 y5.1.2.1 k0 y5.2.1)<|
 ci (A1.kind=5) (ck (0<=A1.elem/\A1.elem<I k0.num.length)<|
 ck (A1.elem.toNat<k0.num.length)<|
 (Kq.k A2 (A1.n) k1).bind fun y6=>
 tK.2.1 t1 t2 t7 y6.1.1 y6.1.2.1 k0 y6.2.1)<|
 ci (A1.kind=6) ((JJ.k (A1.name) k1).bind fun y7=>
 tK.2.1 t1 t2 t7 y7.1.1 y7.1.2.1 k0 y7.2.1)<|
 tK.2.1 t1 t2 t7 t7 0 k0 k1)<|
 z1)<|
 z1
def J4.kB (tK:BY.KT):J4.T:=fun t1 t2 t7 t9 t10 k0 k1=>
 ci (!(t10=0)) ((Dd.k t10 t2 k0 k1).bind fun y3=>
 Aa 1 y3.2.1 y3.2.2.1)<|
 ck (DG none (room 8 (k0.num.length+(t9::[]).length)))<|
 ck (BI (t7+1))<|
 tK.1 t1 t2 (t7+1) ((CH.N2 k0 (k0.num++t9::[]))) k1
def BY.kS (tK:BY.KT):BY.KT:=(Lw.kB tK,J4.kB tK,())
def BY.kL (n:Nat):BY.KT:=Bp BY.kS n
def BY.k0 (tK:BY.KT) (t1 t2:Int) (k0:CH) (k1:CT):R2 Int CH CT:=
 tK.1 t1 t2 (I k0.num.length) k0 k1
def BY.k (t1 t2:Int) (k0:CH) (k1:CT):R2 Int CH CT:=BY.k0 (BY.kL 1000000) t1 t2 k0 k1
def BY.Kc:=kd 46 BY.p fun x=>BY.k x.1.2.1 x.1.2.2.1 x.2.1 x.2.2.1
theorem BY.Kh:BY.Kc.Holds prog:=Fx AI (hc JI.Kh (hc Kq.Kh (hc JJ.Kh (hc Dd.Kh hn)))) BY.ok (fun t x=>BY.k0 t x.1.2.1 x.1.2.2.1 x.2.1 x.2.2.1) (fun c=>(fun t1 t2 t7 k0 k1=>c 2 BY.q2 rfl (((),t1,t2,t7,()),(k0,k1,())),fun t1 t2 t7 t9 t10 k0 k1=>c 13 BY.Zu rfl (((),t1,t2,t7,t9,t10,()),(k0,k1,())),())) BY.kS (by kernel_rfl)
def H2.KE:Env Dop.D4:=Au prog 27 tb [Gq.Kc,HZ.Kc,BY.Kc,G7.Kc,Dd.Kc] H2.p
def H2.k (x:Dop.Ab) (n:Int) (k0:CH) (k1:CT):Sd CH CT:=H2.KE.KJ 3000 1000000 H2.p.sp (((),x,n,()),(k0,k1,()))
def H2.Kc:=kd 27 H2.p fun x=>H2.k x.1.2.1 x.1.2.2.1 x.2.1 x.2.2.1
theorem H2.Kh:H2.Kc.Holds prog:=kh AI (hc Gq.Kh (hc HZ.Kh (hc BY.Kh (hc G7.Kh (hc Dd.Kh hn))))) H2.ok (by kernel_rfl)
def Gc.k (t:Int) (k0:CH) (k1:CT):R2 Int CH CT:=
 (E4.k t k1).bind fun y2=>
 Aa y2.1.1.kind k0 y2.2.1
def Gc.Kc:=kd 52 Gc.p fun x=>Gc.k x.1.2.1 x.2.1 x.2.2.1
theorem Gc.Kh:Gc.Kc.Holds prog:=kh AI (hc E4.Kh hn) Gc.ok (by kernel_rfl)
def Ht.k (t:Int) (k0:CH) (k1:CT):R2 Bool CH CT:=
 (Gc.k t k0 k1).bind fun y2=>
 ci (y2.1.1=1) (Aa true y2.2.1 y2.2.2.1)<|
 ci (y2.1.1=2) (Aa true y2.2.1 y2.2.2.1)<|
 Aa (decide (y2.1.1=3)) y2.2.1 y2.2.2.1
def Ht.Kc:=kd 50 Ht.p fun x=>Ht.k x.1.2.1 x.2.1 x.2.2.1
theorem Ht.Kh:Ht.Kc.Holds prog:=kh AI (hc Gc.Kh hn) Ht.ok (by kernel_rfl)
def H3.KE:Env Dop.D4:=Au prog 28 tb [BY.Kc,Bh.LZ,Dd.Kc,Ht.Kc,Er.Kc,Gc.Kc] H3.p
def H3.k (t1:Dop.Ab) (t2:Int) (k0:CH) (k1:CT):Sd CH CT:=H3.KE.KJ 3000 1000000 H3.p.sp (((),t1,t2,()),(k0,k1,()))
def H3.Kc:=kd 28 H3.p fun x=>H3.k x.1.2.1 x.1.2.2.1 x.2.1 x.2.2.1
theorem H3.Kh:H3.Kc.Holds prog:=kh AI (hc BY.Kh (hc Bh.Ip (hc Dd.Kh (hc Ht.Kh (hc Er.Kh (hc Gc.Kh hn)))))) H3.ok (by kernel_rfl)
abbrev QX.T:Type:=Int->List Int->CH->CT->Dop.Ab->List Int->Int->Sd CH CT
abbrev MJ.T:Type:=Int->List Int->Int->Int->CH->CT->Dop.Ab->List Int->Int->Sd CH CT
abbrev Df.KT:Type:=QX.T×MJ.T×Unit
def QX.kB (tK:Df.KT):QX.T:=fun t2 t11 k0 k1 b2 b3_0 b3_1=>
 let A1:=Dd.k 4 t2 k0 k1
 ci (k0.e=0) (ci (6<I t11.length) (A1.bind fun y4=>
 tK.2.1 t2 t11 (I t11.length) 0 y4.2.1 y4.2.2.1 b2 b3_0 b3_1)<|
 ci (I k0.sigs.length=64) (A1.bind fun y5=>
 tK.2.1 t2 t11 (I t11.length) 0 y5.2.1 y5.2.2.1 b2 b3_0 b3_1)<|
 tK.2.1 t2 t11 (I t11.length) 0 k0 k1 b2 b3_0 b3_1)<|
 tK.2.1 t2 t11 (I t11.length) 0 k0 k1 b2 b3_0 b3_1
def MJ.kB (tK:Df.KT):MJ.T:=fun t2 t85 t86 t87 k0 k1 b2 b3_0 b3_1=>
 let A2:=List.getD t85 t87.toNat 0
 let A1:=CH.JY k0 (B9 k0.sigs b2.text (Dop.OF.mk b3_0 b3_1))
 ci (t87<t86) (ck (0<=t87/\t87<I t85.length)<|
 ck (t87.toNat<t85.length)<|
 (HZ.k A2 k0 k1).bind fun y3=>
 (BY.k y3.1.1.CG A2 y3.2.1 y3.2.2.1).bind fun y4=>
 ci (CH.e y4.2.1=0) ((De.k y4.1.1 y4.2.2.1).bind fun y6=>
 ci (!y6.1.1) ((Dd.k 8 A2 y4.2.1 y6.2.1).bind fun y8=>
 ck (DG none (room 8 (b3_0.length+(y4.1.1::[]).length)))<|
 ck (BI (t87+1))<|
 tK.2.1 t2 t85 t86 (t87+1) y8.2.1 y8.2.2.1 b2 (b3_0++y4.1.1::[]) b3_1)<|
 ck (DG none (room 8 (b3_0.length+(y4.1.1::[]).length)))<|
 ck (BI (t87+1))<|
 tK.2.1 t2 t85 t86 (t87+1) y4.2.1 y6.2.1 b2 (b3_0++y4.1.1::[]) b3_1)<|
 ck (DG none (room 8 (b3_0.length+(y4.1.1::[]).length)))<|
 ck (BI (t87+1))<|
 tK.2.1 t2 t85 t86 (t87+1) y4.2.1 y4.2.2.1 b2 (b3_0++y4.1.1::[]) b3_1)<|
 ci (k0.e=0) (ci (!(b3_1=0)) ((De.k b3_1 k1).bind fun y5=>
 ci (!y5.1.1) ((Dd.k 8 t2 k0 y5.2.1).bind fun y7=>
 iO (CH.JY y7.2.1 (B9 (CH.sigs y7.2.1) b2.text (Dop.OF.mk b3_0 b3_1))) y7.2.2.1)<|
 iO A1 y5.2.1)<|
 iO A1 k1)<|
 iO A1 k1
def Df.kS (tK:Df.KT):Df.KT:=(QX.kB tK,MJ.kB tK,())
def Df.kL (n:Nat):Df.KT:=Bp Df.kS n
def Df.k0 (tK:Df.KT) (t1:Dop.Ab) (t2:Int) (k0:CH) (k1:CT):Sd CH CT:=
 (BY.k t1.CG t2 k0 k1).bind fun y2=>
 ck ((0:Int)<=0/\0<I (CH.names y2.2.1).length)<|
 ck (Int.toNat 0<(CH.names y2.2.1).length)<|
 ck (Int.toNat 0<(CH.names y2.2.1).length)<|
 (Gq.k (CH.t y2.2.1) t1.a).bind fun y3=>
 ci (CH.e y2.2.1=0) (ci ((AO (CH.sigs y2.2.1) t1.text).isSome) ((Dd.k 7 t2 y2.2.1 y2.2.2.1).bind fun y6=>
 tK.1 t2 y3.1.1 y6.2.1 y6.2.2.1 t1 [] y2.1.1)<|
 ci ((AO (List.getD (CH.names y2.2.1) (Int.toNat 0) (([]:List (List UInt8×Dop.CI)))) t1.text).isSome) ((Dd.k 7 t2 y2.2.1 y2.2.2.1).bind fun y7=>
 tK.1 t2 y3.1.1 y7.2.1 y7.2.2.1 t1 [] y2.1.1)<|
 tK.1 t2 y3.1.1 y2.2.1 y2.2.2.1 t1 [] y2.1.1)<|
 tK.1 t2 y3.1.1 y2.2.1 y2.2.2.1 t1 [] y2.1.1
def Df.k (t1:Dop.Ab) (t2:Int) (k0:CH) (k1:CT):Sd CH CT:=Df.k0 (Df.kL 1000000) t1 t2 k0 k1
def Df.Kc:=kd 29 Df.p fun x=>Df.k x.1.2.1 x.1.2.2.1 x.2.1 x.2.2.1
theorem Df.Kh:Df.Kc.Holds prog:=Fx AI (hc BY.Kh (hc Gq.Kh (hc Dd.Kh (hc HZ.Kh (hc De.Kh hn))))) Df.ok (fun t x=>Df.k0 t x.1.2.1 x.1.2.2.1 x.2.1 x.2.2.1) (fun c=>(fun t2 t11 k0 k1 b2 b3_0 b3_1=>c 7 Df.q7 rfl (((),t2,(),(),t11,()),(k0,k1,(b2,()),(b3_0,b3_1,()),())),fun t2 t85 t86 t87 k0 k1 b2 b3_0 b3_1=>c 10 Df.VE rfl (((),t2,(),(),t85,t86,t87,()),(k0,k1,(b2,()),(b3_0,b3_1,()),())),())) Df.kS (by kernel_rfl)
def J6.k (n:Int) (k0:CK) (k1:CT):R2 Int CK CT:=
 ci (n<0) (Aa (-1) k0 k1)<|
 (BZ.k n k0 k1).bind fun y3=>
 Aa y3.1.1.n y3.2.1 y3.2.2.1
def J6.Kc:=kd 96 J6.p fun x=>J6.k x.1.2.1 x.2.1 x.2.2.1
theorem J6.Kh:J6.Kc.Holds prog:=kh AI (hc BZ.Ip hn) J6.ok (by kernel_rfl)
def NK.k (x:Dop.Ab) (n:Int) (k0:CK) (k1:CT):R2 Int CK CT:=
 ci (x.a<0) ((B8.k 37 ((-1)) ((-1)) ((-1)) ((-1)) 0 [] k0 k1).bind BQ)<|
 (CM.k x.a k0 k1).bind fun y3=>
 ci (CK.e y3.2.1=0) (ci (CK.DR y3.2.1=0) ((Az.k 8 n y3.2.1 y3.2.2.1).bind fun y6=>
 Aa y6.1.1.n y6.2.1 y6.2.2.1)<|
 (BU.k y3.1.1 (CK.DR y3.2.1) n false y3.2.1 y3.2.2.1).bind fun y6=>
 (B8.k 37 y6.1.1 ((-1)) ((-1)) ((-1)) 0 [] y6.2.1 y6.2.2.1).bind BQ)<|
 (BU.k y3.1.1 (CK.DR y3.2.1) n false y3.2.1 y3.2.2.1).bind fun y5=>
 (B8.k 37 y5.1.1 ((-1)) ((-1)) ((-1)) 0 [] y5.2.1 y5.2.2.1).bind BQ
def NK.Kc:=kd 99 NK.p fun x=>NK.k x.1.2.1 x.1.2.2.1 x.2.1 x.2.2.1
theorem NK.Kh:NK.Kc.Holds prog:=kh AI (hc B8.Kh (hc CM.Ip (hc Az.Kh (hc BU.Kh hn)))) NK.ok (by kernel_rfl)
def NM.k (t1:Dop.Ab) (t2:Int) (k0:CK) (k1:CT):R2 Int CK CT:=
 let A1:=Dop.Ag.mk (-1) 1 0 0 true
 (DH.k t1.CG t2 k0 k1).bind fun y2=>
 ci (0<=t1.a) ((CM.k t1.a y2.2.1 y2.2.2.1).bind fun y4=>
 (Ik.k t1.text y2.1.1 t2 false y4.2.1 y4.2.2.1).bind fun y5=>
 ci (!y5.1.2.1) (Aa (-1) y5.2.1 y5.2.2.1)<|
 (De.k y2.1.1 y5.2.2.1).bind fun y7=>
 ci (!y7.1.1) (ci (0<=t1.a) ((Az.k 8 t2 y5.2.1 y7.2.1).bind fun y10=>
 Aa y10.1.1.n y10.2.1 y10.2.2.1)<|
 (B8.k 44 ((-1)) ((-1)) ((-1)) ((-1)) 0 [] y5.2.1 y7.2.1).bind BQ)<|
 ci (t1.a<0) ((E5.k 0 y5.2.1 y7.2.1).bind fun y10=>
 ci (y5.1.1.kind=3) ((Fp.k y5.1.1 y10.2.1 y10.2.2.1).bind fun y12=>
 (BU.k (Dop.Ag.mk y10.1.1 y4.1.1.BH y4.1.1.left y4.1.1.at_ y4.1.1.zero) y2.1.1 t2 false y12.2.1 y12.2.2.1).bind fun y13=>
 (Dl.k (Dop.Ag.mk 0 y2.1.1 2 y12.1.1 false) y13.1.1 y13.2.1 y13.2.2.1).bind fun y14=>
 (B8.k 30 y14.1.1 ((-1)) ((-1)) ((-1)) 0 [] y14.2.1 y14.2.2.1).bind BQ)<|
 (BU.k (Dop.Ag.mk y10.1.1 y4.1.1.BH y4.1.1.left y4.1.1.at_ y4.1.1.zero) y2.1.1 t2 false y10.2.1 y10.2.2.1).bind fun y12=>
 (Dl.k (Dop.Ag.mk 0 y2.1.1 1 y5.1.1.n false) y12.1.1 y12.2.1 y12.2.2.1).bind fun y13=>
 (B8.k 30 y13.1.1 ((-1)) ((-1)) ((-1)) 0 [] y13.2.1 y13.2.2.1).bind BQ)<|
 ci (y5.1.1.kind=3) ((Fp.k y5.1.1 y5.2.1 y7.2.1).bind fun y11=>
 (BU.k y4.1.1 y2.1.1 t2 false y11.2.1 y11.2.2.1).bind fun y12=>
 (Dl.k (Dop.Ag.mk 0 y2.1.1 2 y11.1.1 false) y12.1.1 y12.2.1 y12.2.2.1).bind fun y13=>
 (B8.k 30 y13.1.1 ((-1)) ((-1)) ((-1)) 0 [] y13.2.1 y13.2.2.1).bind BQ)<|
 (BU.k y4.1.1 y2.1.1 t2 false y5.2.1 y7.2.1).bind fun y11=>
 (Dl.k (Dop.Ag.mk 0 y2.1.1 1 y5.1.1.n false) y11.1.1 y11.2.1 y11.2.2.1).bind fun y12=>
 (B8.k 30 y12.1.1 ((-1)) ((-1)) ((-1)) 0 [] y12.2.1 y12.2.2.1).bind BQ)<|
 (Ik.k t1.text y2.1.1 t2 false y2.2.1 y2.2.2.1).bind fun y4=>
 ci (!y4.1.2.1) (Aa (-1) y4.2.1 y4.2.2.1)<|
 (De.k y2.1.1 y4.2.2.1).bind fun y6=>
 ci (!y6.1.1) (ci (0<=t1.a) ((Az.k 8 t2 y4.2.1 y6.2.1).bind fun y9=>
 Aa y9.1.1.n y9.2.1 y9.2.2.1)<|
 (B8.k 44 ((-1)) ((-1)) ((-1)) ((-1)) 0 [] y4.2.1 y6.2.1).bind BQ)<|
 ci (t1.a<0) ((E5.k 0 y4.2.1 y6.2.1).bind fun y9=>
 ci (y4.1.1.kind=3) ((Fp.k y4.1.1 y9.2.1 y9.2.2.1).bind fun y11=>
 (BU.k (Dop.Ag.mk y9.1.1 1 0 0 true) y2.1.1 t2 false y11.2.1 y11.2.2.1).bind fun y12=>
 (Dl.k (Dop.Ag.mk 0 y2.1.1 2 y11.1.1 false) y12.1.1 y12.2.1 y12.2.2.1).bind fun y13=>
 (B8.k 30 y13.1.1 ((-1)) ((-1)) ((-1)) 0 [] y13.2.1 y13.2.2.1).bind BQ)<|
 (BU.k (Dop.Ag.mk y9.1.1 1 0 0 true) y2.1.1 t2 false y9.2.1 y9.2.2.1).bind fun y11=>
 (Dl.k (Dop.Ag.mk 0 y2.1.1 1 y4.1.1.n false) y11.1.1 y11.2.1 y11.2.2.1).bind fun y12=>
 (B8.k 30 y12.1.1 ((-1)) ((-1)) ((-1)) 0 [] y12.2.1 y12.2.2.1).bind BQ)<|
 ci (y4.1.1.kind=3) ((Fp.k y4.1.1 y4.2.1 y6.2.1).bind fun y10=>
 (BU.k A1 y2.1.1 t2 false y10.2.1 y10.2.2.1).bind fun y11=>
 (Dl.k (Dop.Ag.mk 0 y2.1.1 2 y10.1.1 false) y11.1.1 y11.2.1 y11.2.2.1).bind fun y12=>
 (B8.k 30 y12.1.1 ((-1)) ((-1)) ((-1)) 0 [] y12.2.1 y12.2.2.1).bind BQ)<|
 (BU.k A1 y2.1.1 t2 false y4.2.1 y6.2.1).bind fun y10=>
 (Dl.k (Dop.Ag.mk 0 y2.1.1 1 y4.1.1.n false) y10.1.1 y10.2.1 y10.2.2.1).bind fun y11=>
 (B8.k 30 y11.1.1 ((-1)) ((-1)) ((-1)) 0 [] y11.2.1 y11.2.2.1).bind BQ
def NM.Kc:=kd 103 NM.p fun x=>NM.k x.1.2.1 x.1.2.2.1 x.2.1 x.2.2.1
theorem NM.Kh:NM.Kc.Holds prog:=kh AI (hc DH.Kh (hc CM.Ip (hc Ik.Kh (hc De.Kh (hc Az.Kh (hc B8.Kh (hc E5.Kh (hc Fp.Kh (hc BU.Kh (hc Dl.Kh hn)))))))))) NM.ok (by kernel_rfl)
abbrev Bi.kr (r:Ci.T) (t1:Int) (k0:CK) (k1:CT):R2 Int CK CT:=r.1 (((),t1,()),(k0,k1,()))
abbrev G8.kr (r:Ci.T) (n:Int) (k0:CK) (k1:CT):R2 Int CK CT:=r.2.1 (((),n,()),(k0,k1,()))
abbrev HV.kr (r:Ci.T) (x:Dop.Ab) (n:Int) (k0:CK) (k1:CT):R2 Int CK CT:=r.2.2.1 (((),x,n,()),(k0,k1,()))
abbrev DX.kr (r:Ci.T) (k1:CK) (k2:CT) (b3:Dop.Ab):Option ((Int×Unit)×((Unit×Unit)×CK×CT×(Dop.Ab×Unit)×Unit)):=r.2.2.2.1 (((),(),()),(((),()),k1,k2,(b3,()),()))
abbrev Ly.T:Type:=Int->CK->CT->Dop.Ab->R2 Int CK CT
abbrev Lz.T:Type:=Int->Int->CK->CT->Dop.Ab->R2 Int CK CT
abbrev Bi.KT:Type:=Ly.T×Lz.T×Unit
def Ly.kB (rK:Ci.T) (tK:Bi.KT):Ly.T:=fun t1 k0 k1 b3=>
 let A1:=B8.k b3.kind ((-1)) ((-1)) ((-1)) ((-1)) 0 [] k0 k1
 let z1:R2 Int CK CT:=
 A1.bind BQ
 ci (b3.kind=35) (ci (k0.Jd=0) ((Az.k 9 t1 k0 k1).bind fun y4=>
 Aa y4.1.1.n y4.2.1 y4.2.2.1)<|
 ci (b3.kind=36) (ci (k0.loops=0) ((Az.k 9 t1 k0 k1).bind fun y6=>
 Aa y6.1.1.n y6.2.1 y6.2.2.1)<|
 A1.bind BQ)<|
 z1)<|
 ci (b3.kind=36) (ci (k0.loops=0) ((Az.k 9 t1 k0 k1).bind fun y5=>
 Aa y5.1.1.n y5.2.1 y5.2.2.1)<|
 z1)<|
 A1.bind BQ
def Lz.kB (rK:Ci.T) (tK:Bi.KT):Lz.T:=fun t1 t27 k0 k1 b3=>
 let A2:=(HV.kr rK b3 t1 k0 k1).bind BQ
 let A1:=B9 k0.labels b3.text ((AO k0.labels b3.text).getD (0:Int)+1)
 let z1:R2 Int CK CT:=
 ci (t27=43) (ck (room 8 (k0.names.length+1))<|
 (DX.kr rK ((CK.Cc k0 (k0.names++([]:List (List UInt8×Dop.CI))::[]))) k1 b3).bind fun y9=>
 ck (BI (I (CK.names y9.2.2.1).length -1))<|
 ck (0<=I (CK.names y9.2.2.1).length -1/\I (CK.names y9.2.2.1).length -1<=I (CK.names y9.2.2.1).length)<|
 Aa y9.1.1 (CK.Cc y9.2.2.1 (List.take (I (CK.names y9.2.2.1).length -1).toNat (CK.names y9.2.2.1))) y9.2.2.2.1)<|
 ci (t27=45) ((NM.k b3 t1 k0 k1).bind BQ)<|
 (B8.k 44 ((-1)) ((-1)) ((-1)) ((-1)) 0 [] k0 k1).bind BQ
 ci (t27=37) ((NK.k b3 t1 k0 k1).bind BQ)<|
 ci (t27=38) (ci (!(AO k0.gotos b3.text).isSome) ((B8.k 38 ((-1)) ((-1)) ((-1)) ((-1)) 0 b3.text ((CK.cP k0 (B9 k0.gotos b3.text t1))) k1).bind BQ)<|
 (B8.k 38 ((-1)) ((-1)) ((-1)) ((-1)) 0 b3.text k0 k1).bind BQ)<|
 ci (t27=39) (ck (BI ((AO k0.labels b3.text).getD (0:Int)+1))<|
 ci (1<(AO A1 b3.text).getD 0) ((Az.k 9 t1 ((CK.SH k0 A1)) k1).bind fun y6=>
 Aa y6.1.1.n y6.2.1 y6.2.2.1)<|
 (Bi.kr rK b3.a ((CK.SH k0 A1)) k1).bind fun y6=>
 (B8.k 39 y6.1.1 ((-1)) ((-1)) ((-1)) 0 b3.text y6.2.1 y6.2.2.1).bind BQ)<|
 ci (t27=40) ((CM.k b3.a k0 k1).bind fun y6=>
 ck (room 8 ((CK.MR y6.2.1).length+1))<|
 ck (BI (CK.Jd y6.2.1+1))<|
 (Bi.kr rK b3.b ((CK.LW (CK.O8 y6.2.1 (CK.MR y6.2.1++([]:List (Int×Int))::[])) (CK.Jd y6.2.1+1))) y6.2.2.1).bind fun y7=>
 ck (BI (CK.Jd y7.2.1 -1))<|
 ck (BI (I (CK.MR y7.2.1).length -1))<|
 ck (0<=I (CK.MR y7.2.1).length -1/\I (CK.MR y7.2.1).length -1<=I (CK.MR y7.2.1).length)<|
 (B8.k 40 y6.1.1.n y7.1.1 ((-1)) ((-1)) 0 [] ((CK.LW (CK.O8 y7.2.1 (List.take (I (CK.MR y7.2.1).length -1).toNat (CK.MR y7.2.1))) (CK.Jd y7.2.1 -1))) y7.2.2.1).bind BQ)<|
 ci (t27=41) (ci (t27=41) A2<|
 z1)<|
 ci (t27=42) A2<|
 z1
def Bi.kS (rK:Ci.T) (tK:Bi.KT):Bi.KT:=(Ly.kB rK tK,Lz.kB rK tK,())
def Bi.kL (rK:Ci.T) (n:Nat):Bi.KT:=Bp (Bi.kS rK) n
def Bi.k0 (rK:Ci.T) (tK:Bi.KT) (t1:Int) (k0:CK) (k1:CT):R2 Int CK CT:=
 (OJ.k t1 k0 k1).bind fun y2=>
 ci (!(CK.e y2.2.1=0)) (Aa (-1) y2.2.1 y2.2.2.1)<|
 ci (y2.1.1.kind=30) ((J6.k y2.1.1.a y2.2.1 y2.2.2.1).bind fun y5=>
 (B8.k 30 y5.1.1 ((-1)) ((-1)) ((-1)) 0 [] y5.2.1 y5.2.2.1).bind BQ)<|
 ci (y2.1.1.kind=31) ((CM.k y2.1.1.a y2.2.1 y2.2.2.1).bind fun y6=>
 (Bi.kr rK y2.1.1.b y6.2.1 y6.2.2.1).bind fun y7=>
 ci (0<=y2.1.1.c) ((Bi.kr rK y2.1.1.c y7.2.1 y7.2.2.1).bind fun y9=>
 (B8.k 31 y6.1.1.n y7.1.1 y9.1.1 ((-1)) 0 [] y9.2.1 y9.2.2.1).bind BQ)<|
 (B8.k 31 y6.1.1.n y7.1.1 ((-1)) ((-1)) 0 [] y7.2.1 y7.2.2.1).bind BQ)<|
 ci (y2.1.1.kind=32) ((CM.k y2.1.1.a y2.2.1 y2.2.2.1).bind fun y7=>
 (G8.kr rK y2.1.1.b y7.2.1 y7.2.2.1).bind fun y8=>
 (B8.k 32 y7.1.1.n y8.1.1 ((-1)) ((-1)) 0 [] y8.2.1 y8.2.2.1).bind BQ)<|
 ci (y2.1.1.kind=33) ((G8.kr rK y2.1.1.b y2.2.1 y2.2.2.1).bind fun y8=>
 (CM.k y2.1.1.a y8.2.1 y8.2.2.1).bind fun y9=>
 (B8.k 33 y9.1.1.n y8.1.1 ((-1)) ((-1)) 0 [] y9.2.1 y9.2.2.1).bind BQ)<|
 ci (y2.1.1.kind=34) ((J6.k y2.1.1.a y2.2.1 y2.2.2.1).bind fun y9=>
 ci (0<=y2.1.1.b) ((CM.k y2.1.1.b y9.2.1 y9.2.2.1).bind fun y11=>
 (J6.k y2.1.1.c y11.2.1 y11.2.2.1).bind fun y12=>
 (G8.kr rK y2.1.1.d y12.2.1 y12.2.2.1).bind fun y13=>
 (B8.k 34 y9.1.1 y11.1.1.n y12.1.1 y13.1.1 0 [] y13.2.1 y13.2.2.1).bind BQ)<|
 (J6.k y2.1.1.c y9.2.1 y9.2.2.1).bind fun y11=>
 (G8.kr rK y2.1.1.d y11.2.1 y11.2.2.1).bind fun y12=>
 (B8.k 34 y9.1.1 ((-1)) y11.1.1 y12.1.1 0 [] y12.2.1 y12.2.2.1).bind BQ)<|
 ci (y2.1.1.kind=35) (ci (y2.1.1.kind=35) (tK.1 t1 y2.2.1 y2.2.2.1 y2.1.1)<|
 tK.2.1 t1 y2.1.1.kind y2.2.1 y2.2.2.1 y2.1.1)<|
 ci (y2.1.1.kind=36) (tK.1 t1 y2.2.1 y2.2.2.1 y2.1.1)<|
 tK.2.1 t1 y2.1.1.kind y2.2.1 y2.2.2.1 y2.1.1
def Bi.kf (rK:Ci.T) (t1:Int) (k0:CK) (k1:CT):R2 Int CK CT:=Bi.k0 rK (Bi.kL rK 1000000) t1 k0 k1
def G8.kf (rK:Ci.T) (n:Int) (k0:CK) (k1:CT):R2 Int CK CT:=
 ck (BI (k0.loops+1))<|
 ck (BI (k0.Jd+1))<|
 (Bi.kr rK n ((CK.LW (CK.Ig k0 (k0.loops+1)) (k0.Jd+1))) k1).bind fun y2=>
 ck (BI (CK.loops y2.2.1 -1))<|
 ck (BI (CK.Jd y2.2.1 -1))<|
 Aa y2.1.1 (CK.LW (CK.Ig y2.2.1 (CK.loops y2.2.1 -1)) (CK.Jd y2.2.1 -1)) y2.2.2.1
def HV.kf (rK:Ci.T) (x:Dop.Ab) (n:Int) (k0:CK) (k1:CT):R2 Int CK CT:=(Au (S:=Dop.D4) prog 100 tb (Ci.ct rK++[Er.Kc,Az.Kc,B8.Kc]) HV.p).KJ 3000 1000000 HV.p.sp (((),x,n,()),(k0,k1,()))
abbrev QH.T:Type:=List Int->List Int->Int->Int->CK->CT->Dop.Ab->Option ((Int×Unit)×((Unit×Unit)×CK×CT×(Dop.Ab×Unit)×Unit))
abbrev DX.KT:Type:=QH.T×Unit
def QH.kB (rK:Ci.T) (tK:DX.KT):QH.T:=fun l t12 t13 t14 k1 k2 b3=>
 ci (t14<t13) (ck (0<=t14/\t14<I t12.length)<|
 ck (t14.toNat<t12.length)<|
 (Bi.kr rK (List.getD t12 t14.toNat 0) k1 k2).bind fun y3=>
 ck (DG none (room 8 (l.length+(y3.1.1::[]).length)))<|
 ck (BI (t14+1))<|
 tK.1 (l++y3.1.1::[]) t12 t13 (t14+1) y3.2.1 y3.2.2.1 b3)<|
 (Ae.k l k1 k2).bind fun y3=>
 (B8.k 43 y3.1.1 ((-1)) ((-1)) ((-1)) 0 [] y3.2.1 y3.2.2.1).bind fun y4=>
 some ((y4.1.1,()),(((),()),(y4.2.1,(y4.2.2.1,((b3,()),())))))
def DX.kS (rK:Ci.T) (tK:DX.KT):DX.KT:=(QH.kB rK tK,())
def DX.kL (rK:Ci.T) (n:Nat):DX.KT:=Bp (DX.kS rK) n
def DX.k0 (rK:Ci.T) (tK:DX.KT) (k1:CK) (k2:CT) (b3:Dop.Ab):Option ((Int×Unit)×((Unit×Unit)×CK×CT×(Dop.Ab×Unit)×Unit)):=
 (Gq.k k1.t b3.a).bind fun y2=>
 tK.1 [] y2.1.1 (I y2.1.1.length) 0 k1 k2 b3
def DX.kf (rK:Ci.T) (k1:CK) (k2:CT) (b3:Dop.Ab):Option ((Int×Unit)×((Unit×Unit)×CK×CT×(Dop.Ab×Unit)×Unit)):=DX.k0 rK (DX.kL rK 1000000) k1 k2 b3
def Ci.kS (r:Ci.T):Ci.T:=(fun x=>Bi.kf r x.1.2.1 x.2.1 x.2.2.1,fun x=>G8.kf r x.1.2.1 x.2.1 x.2.2.1,fun x=>HV.kf r x.1.2.1 x.1.2.2.1 x.2.1 x.2.2.1,fun x=>DX.kf r x.2.2.1 x.2.2.2.1 x.2.2.2.2.1.1,())
def Ci.kR (n:Nat):Ci.T:=Bp Ci.kS n
def Bi.Kc (n:Nat):=kd 60 Bi.p (Ci.kR n).1
def Bi.LZ:=Bi.Kc FU
def Bi.k:=Bi.kr (Ci.kR FU)
def G8.Kc (n:Nat):=kd 98 G8.p (Ci.kR n).2.1
def HV.Kc (n:Nat):=kd 100 HV.p (Ci.kR n).2.2.1
def DX.Kc (n:Nat):=kd 102 DX.p (Ci.kR n).2.2.2.1
def Ci.Si (n:Nat):List (B2 Dop.D4):=[Bi.Kc n,G8.Kc n,HV.Kc n,DX.Kc n]
theorem Ci.FD: ∀ n,(Bi.Kc n).Holds prog/\(G8.Kc n).Holds prog/\(HV.Kc n).Holds prog/\(DX.Kc n).Holds prog/\True
 | 0=>⟨AP AI Bi.ok,AP AI G8.ok,AP AI HV.ok,AP AI DX.ok,trivial⟩
 | n+1=>by
  obtain ⟨h0,h1,h2,h3,_⟩:=Ci.FD n
  have hh: ∀ c∈Ci.Si n,c.Holds prog:=(hc h0 (hc h1 (hc h2 (hc h3 hn))))
  exact ⟨Fx AI (Af hh (hc OJ.Kh (hc J6.Kh (hc B8.Kh (hc CM.Ip (hc Az.Kh (hc NK.Kh (hc NM.Kh hn)))))))) Bi.ok (fun t x=>Bi.k0 (Ci.kR n) t x.1.2.1 x.2.1 x.2.2.1) (fun c=>(fun t1 k0 k1 b3=>c 27 Bi.n7 rfl ((t1,(),(),()),(k0,k1,((),()),(b3,()),())),fun t1 t27 k0 k1 b3=>c 30 Bi.n8 rfl ((t1,(),(),t27,()),(k0,k1,((),()),(b3,()),())),())) (Bi.kS (Ci.kR n)) (by kernel_rfl),
   kh AI (Af hh hn) G8.ok (by kernel_rfl),
   kh AI (Af hh (hc Er.Kh (hc Az.Kh (hc B8.Kh hn)))) HV.ok (by kernel_rfl),
   Fx AI (Af hh (hc Gq.Kh (hc Ae.Kh (hc B8.Kh hn)))) DX.ok (fun t x=>DX.k0 (Ci.kR n) t x.2.2.1 x.2.2.2.1 x.2.2.2.2.1.1) (fun c=>(fun l t12 t13 t14 k1 k2 b3=>c 3 DX.q3 rfl (((),l,t12,t13,t14,()),(((),()),k1,k2,(b3,()),())),())) (DX.kS (Ci.kR n)) (by kernel_rfl),
   trivial⟩
theorem Bi.Ip:Bi.LZ.Holds prog:=(Ci.FD FU).1
end
end Go.Proofs.Tryz
