/-
 Functions in plain words (what their equations say), and their contracts. Written by a program.
-/
import Derived.Test.YtkpggdcpaeanaaaGreatDoorTwL
import Derived.Test.YtkpggdcpaeanaaaGreatDoorMo
set_option linter.all false
set_option maxRecDepth 100000
set_option maxHeartbeats 4000000
namespace Go.Proofs.Tryz
open Go Go.En
noncomputable section
def IG.k (t1:List UInt8) (t2 t3:Int) (t4:Bool) (k0:CK) (k1:CT):ee Dop.B6 Bool CK CT:=
 let A4:=Ap (k0.f.Al+(1:Int) -1)
 let A3:=Dop.DR.mk k0.f.name k0.f.params (k0.f.Al+1) k0.f.frame k0.f.body
 let A2:=Dop.B6.mk 2 (k0.f.Al+(1:Int) -1) t2
 let A1:=Dop.B6.mk 3 k0.f.frame t2
 (Be.k t2 k1).bind fun y2=>
 ck (Ap (I k0.names.length -1))<|
 ck (0<=I k0.names.length -1/\I k0.names.length -1<I k0.names.length)<|
 ck ((I k0.names.length -1).toNat<k0.names.length)<|
 ck ((I k0.names.length -1).toNat<k0.names.length)<|
 ci ((AL (List.getD k0.names (I k0.names.length -1).toNat (([]:List (List UInt8×Dop.B6)))) t1).isSome) (ci (k0.e=0) ((Gz.k t3 k0.t k0.num k0.funcs k0.globals k0.top k0.nodes k0.sigs k0.taken k0.f k0.BX k0.labels k0.gotos k0.loops k0.BE k0.Gh k0.e k0.when y2.2.1 k0.names).bind fun y5=>
 Nn (Dop.B6.mk 0 0 0) false (Dop.Fy.mk y5.2.1.1 y5.2.1.2.1 y5.2.1.2.2.1,(),y5.2.1.2.2.2.2.1,y5.2.1.2.2.2.2.2.1,y5.2.1.2.2.2.2.2.2.1,y5.2.1.2.2.2.2.2.2.2.1,y5.2.1.2.2.2.2.2.2.2.2.1,y5.2.2.2.1.1,y5.2.1.2.2.2.2.2.2.2.2.2.2.1,y5.2.1.2.2.2.2.2.2.2.2.2.2.2.1,Dop.DR.mk y5.2.1.2.2.2.2.2.2.2.2.2.2.2.2.1 y5.2.1.2.2.2.2.2.2.2.2.2.2.2.2.2.1 y5.2.1.2.2.2.2.2.2.2.2.2.2.2.2.2.2.1 y5.2.1.2.2.2.2.2.2.2.2.2.2.2.2.2.2.2.1 y5.2.1.2.2.2.2.2.2.2.2.2.2.2.2.2.2.2.2.1,y5.2.1.2.2.2.2.2.2.2.2.2.2.2.2.2.2.2.2.2.1,y5.2.1.2.2.2.2.2.2.2.2.2.2.2.2.2.2.2.2.2.2.1,y5.2.1.2.2.2.2.2.2.2.2.2.2.2.2.2.2.2.2.2.2.2.1,y5.2.1.2.2.2.2.2.2.2.2.2.2.2.2.2.2.2.2.2.2.2.2.1,y5.2.1.2.2.2.2.2.2.2.2.2.2.2.2.2.2.2.2.2.2.2.2.2.1,y5.2.1.2.2.2.2.2.2.2.2.2.2.2.2.2.2.2.2.2.2.2.2.2.2.1,7,y5.1.1.at_,()) y5.2.2.1)<|
 Nn (Dop.B6.mk 0 0 0) false k0 y2.2.1)<|
 ci (!y2.1.2.1) (ci (k0.e=0) ((Gz.k t3 k0.t k0.num k0.funcs k0.globals k0.top k0.nodes k0.sigs k0.taken k0.f k0.BX k0.labels k0.gotos k0.loops k0.BE k0.Gh k0.e k0.when y2.2.1 k0.names).bind fun y6=>
 Nn (Dop.B6.mk 0 0 0) false (Dop.Fy.mk y6.2.1.1 y6.2.1.2.1 y6.2.1.2.2.1,(),y6.2.1.2.2.2.2.1,y6.2.1.2.2.2.2.2.1,y6.2.1.2.2.2.2.2.2.1,y6.2.1.2.2.2.2.2.2.2.1,y6.2.1.2.2.2.2.2.2.2.2.1,y6.2.2.2.1.1,y6.2.1.2.2.2.2.2.2.2.2.2.2.1,y6.2.1.2.2.2.2.2.2.2.2.2.2.2.1,Dop.DR.mk y6.2.1.2.2.2.2.2.2.2.2.2.2.2.2.1 y6.2.1.2.2.2.2.2.2.2.2.2.2.2.2.2.1 y6.2.1.2.2.2.2.2.2.2.2.2.2.2.2.2.2.1 y6.2.1.2.2.2.2.2.2.2.2.2.2.2.2.2.2.2.1 y6.2.1.2.2.2.2.2.2.2.2.2.2.2.2.2.2.2.2.1,y6.2.1.2.2.2.2.2.2.2.2.2.2.2.2.2.2.2.2.2.1,y6.2.1.2.2.2.2.2.2.2.2.2.2.2.2.2.2.2.2.2.2.1,y6.2.1.2.2.2.2.2.2.2.2.2.2.2.2.2.2.2.2.2.2.2.1,y6.2.1.2.2.2.2.2.2.2.2.2.2.2.2.2.2.2.2.2.2.2.2.1,y6.2.1.2.2.2.2.2.2.2.2.2.2.2.2.2.2.2.2.2.2.2.2.2.1,y6.2.1.2.2.2.2.2.2.2.2.2.2.2.2.2.2.2.2.2.2.2.2.2.2.1,8,y6.1.1.at_,()) y6.2.2.1)<|
 Nn (Dop.B6.mk 0 0 0) false k0 y2.2.1)<|
 ci t4 ((DY.k t2 y2.2.1).bind fun y6=>
 ci (!y6.1.1) (ci (k0.e=0) ((Gz.k t3 k0.t k0.num k0.funcs k0.globals k0.top k0.nodes k0.sigs k0.taken k0.f k0.BX k0.labels k0.gotos k0.loops k0.BE k0.Gh k0.e k0.when y6.2.1 k0.names).bind fun y9=>
 Nn (Dop.B6.mk 0 0 0) false (Dop.Fy.mk y9.2.1.1 y9.2.1.2.1 y9.2.1.2.2.1,(),y9.2.1.2.2.2.2.1,y9.2.1.2.2.2.2.2.1,y9.2.1.2.2.2.2.2.2.1,y9.2.1.2.2.2.2.2.2.2.1,y9.2.1.2.2.2.2.2.2.2.2.1,y9.2.2.2.1.1,y9.2.1.2.2.2.2.2.2.2.2.2.2.1,y9.2.1.2.2.2.2.2.2.2.2.2.2.2.1,Dop.DR.mk y9.2.1.2.2.2.2.2.2.2.2.2.2.2.2.1 y9.2.1.2.2.2.2.2.2.2.2.2.2.2.2.2.1 y9.2.1.2.2.2.2.2.2.2.2.2.2.2.2.2.2.1 y9.2.1.2.2.2.2.2.2.2.2.2.2.2.2.2.2.2.1 y9.2.1.2.2.2.2.2.2.2.2.2.2.2.2.2.2.2.2.1,y9.2.1.2.2.2.2.2.2.2.2.2.2.2.2.2.2.2.2.2.1,y9.2.1.2.2.2.2.2.2.2.2.2.2.2.2.2.2.2.2.2.2.1,y9.2.1.2.2.2.2.2.2.2.2.2.2.2.2.2.2.2.2.2.2.2.1,y9.2.1.2.2.2.2.2.2.2.2.2.2.2.2.2.2.2.2.2.2.2.2.1,y9.2.1.2.2.2.2.2.2.2.2.2.2.2.2.2.2.2.2.2.2.2.2.2.1,y9.2.1.2.2.2.2.2.2.2.2.2.2.2.2.2.2.2.2.2.2.2.2.2.2.1,8,y9.1.1.at_,()) y9.2.2.1)<|
 Nn (Dop.B6.mk 0 0 0) false k0 y6.2.1)<|
 (DY.k t2 y6.2.1).bind fun y8=>
 let z1:ee Dop.B6 Bool CK CT:=
 ck ((I k0.names.length -1).toNat<k0.names.length)<|
 Nn A1 (decide (k0.e=0)) (CK.X9 (CK.B8 k0 (k0.names.set (I k0.names.length -1).toNat (BO (List.getD k0.names (I k0.names.length -1).toNat (([]:List (List UInt8×Dop.B6)))) t1 A1))) (Dop.DR.mk k0.f.name k0.f.params k0.f.Al (k0.f.frame+y2.1.1) k0.f.body)) y8.2.1
 ci y8.1.1 (ci ((AL k0.taken t1).getD (0:Int)=0) (ci (k0.f.Al=4096) (ci (k0.e=0) ((Gz.k t3 k0.t k0.num k0.funcs k0.globals k0.top k0.nodes k0.sigs k0.taken k0.f k0.BX k0.labels k0.gotos k0.loops k0.BE k0.Gh k0.e k0.when y8.2.1 k0.names).bind fun y13=>
 ck ((I k0.names.length -1).toNat<y13.2.2.2.1.1.length)<|
 Nn (Dop.B6.mk 2 0 t2) (decide ((4:Int)=0)) (Dop.Fy.mk y13.2.1.1 y13.2.1.2.1 y13.2.1.2.2.1,(),y13.2.1.2.2.2.2.1,y13.2.1.2.2.2.2.2.1,y13.2.1.2.2.2.2.2.2.1,y13.2.1.2.2.2.2.2.2.2.1,y13.2.1.2.2.2.2.2.2.2.2.1,y13.2.2.2.1.1.set (I k0.names.length -1).toNat (BO (List.getD y13.2.2.2.1.1 (I k0.names.length -1).toNat (([]:List (List UInt8×Dop.B6)))) t1 (Dop.B6.mk 2 0 t2)),y13.2.1.2.2.2.2.2.2.2.2.2.2.1,y13.2.1.2.2.2.2.2.2.2.2.2.2.2.1,Dop.DR.mk y13.2.1.2.2.2.2.2.2.2.2.2.2.2.2.1 y13.2.1.2.2.2.2.2.2.2.2.2.2.2.2.2.1 y13.2.1.2.2.2.2.2.2.2.2.2.2.2.2.2.2.1 y13.2.1.2.2.2.2.2.2.2.2.2.2.2.2.2.2.2.1 y13.2.1.2.2.2.2.2.2.2.2.2.2.2.2.2.2.2.2.1,y13.2.1.2.2.2.2.2.2.2.2.2.2.2.2.2.2.2.2.2.1,y13.2.1.2.2.2.2.2.2.2.2.2.2.2.2.2.2.2.2.2.2.1,y13.2.1.2.2.2.2.2.2.2.2.2.2.2.2.2.2.2.2.2.2.2.1,y13.2.1.2.2.2.2.2.2.2.2.2.2.2.2.2.2.2.2.2.2.2.2.1,y13.2.1.2.2.2.2.2.2.2.2.2.2.2.2.2.2.2.2.2.2.2.2.2.1,y13.2.1.2.2.2.2.2.2.2.2.2.2.2.2.2.2.2.2.2.2.2.2.2.2.1,4,y13.1.1.at_,()) y13.2.2.1)<|
 ck ((I k0.names.length -1).toNat<k0.names.length)<|
 Nn (Dop.B6.mk 2 0 t2) (decide (k0.e=0)) (CK.B8 k0 (k0.names.set (I k0.names.length -1).toNat (BO (List.getD k0.names (I k0.names.length -1).toNat (([]:List (List UInt8×Dop.B6)))) t1 (Dop.B6.mk 2 0 t2)))) y8.2.1)<|
 ck (Ap (k0.f.Al+1))<|
 ck A4<|
 ck ((I k0.names.length -1).toNat<k0.names.length)<|
 Nn A2 (decide (k0.e=0)) (CK.X9 (CK.B8 k0 (k0.names.set (I k0.names.length -1).toNat (BO (List.getD k0.names (I k0.names.length -1).toNat (([]:List (List UInt8×Dop.B6)))) t1 A2))) A3) y8.2.1)<|
 ck (Ap (k0.f.frame+y2.1.1))<|
 ci (4096<k0.f.frame+y2.1.1) (ci (k0.e=0) ((Gz.k t3 k0.t k0.num k0.funcs k0.globals k0.top k0.nodes k0.sigs k0.taken (Dop.DR.mk k0.f.name k0.f.params k0.f.Al (k0.f.frame+y2.1.1) k0.f.body) k0.BX k0.labels k0.gotos k0.loops k0.BE k0.Gh k0.e k0.when y8.2.1 k0.names).bind fun y13=>
 ck ((I k0.names.length -1).toNat<y13.2.2.2.1.1.length)<|
 Nn A1 (decide ((4:Int)=0)) (Dop.Fy.mk y13.2.1.1 y13.2.1.2.1 y13.2.1.2.2.1,(),y13.2.1.2.2.2.2.1,y13.2.1.2.2.2.2.2.1,y13.2.1.2.2.2.2.2.2.1,y13.2.1.2.2.2.2.2.2.2.1,y13.2.1.2.2.2.2.2.2.2.2.1,y13.2.2.2.1.1.set (I k0.names.length -1).toNat (BO (List.getD y13.2.2.2.1.1 (I k0.names.length -1).toNat (([]:List (List UInt8×Dop.B6)))) t1 A1),y13.2.1.2.2.2.2.2.2.2.2.2.2.1,y13.2.1.2.2.2.2.2.2.2.2.2.2.2.1,Dop.DR.mk y13.2.1.2.2.2.2.2.2.2.2.2.2.2.2.1 y13.2.1.2.2.2.2.2.2.2.2.2.2.2.2.2.1 y13.2.1.2.2.2.2.2.2.2.2.2.2.2.2.2.2.1 y13.2.1.2.2.2.2.2.2.2.2.2.2.2.2.2.2.2.1 y13.2.1.2.2.2.2.2.2.2.2.2.2.2.2.2.2.2.2.1,y13.2.1.2.2.2.2.2.2.2.2.2.2.2.2.2.2.2.2.2.1,y13.2.1.2.2.2.2.2.2.2.2.2.2.2.2.2.2.2.2.2.2.1,y13.2.1.2.2.2.2.2.2.2.2.2.2.2.2.2.2.2.2.2.2.2.1,y13.2.1.2.2.2.2.2.2.2.2.2.2.2.2.2.2.2.2.2.2.2.2.1,y13.2.1.2.2.2.2.2.2.2.2.2.2.2.2.2.2.2.2.2.2.2.2.2.1,y13.2.1.2.2.2.2.2.2.2.2.2.2.2.2.2.2.2.2.2.2.2.2.2.2.1,4,y13.1.1.at_,()) y13.2.2.1)<|
 z1)<|
 z1)<|
 ck (Ap (k0.f.frame+y2.1.1))<|
 ci (4096<k0.f.frame+y2.1.1) (ci (k0.e=0) ((Gz.k t3 k0.t k0.num k0.funcs k0.globals k0.top k0.nodes k0.sigs k0.taken (Dop.DR.mk k0.f.name k0.f.params k0.f.Al (k0.f.frame+y2.1.1) k0.f.body) k0.BX k0.labels k0.gotos k0.loops k0.BE k0.Gh k0.e k0.when y8.2.1 k0.names).bind fun y12=>
 ck ((I k0.names.length -1).toNat<y12.2.2.2.1.1.length)<|
 Nn A1 (decide ((4:Int)=0)) (Dop.Fy.mk y12.2.1.1 y12.2.1.2.1 y12.2.1.2.2.1,(),y12.2.1.2.2.2.2.1,y12.2.1.2.2.2.2.2.1,y12.2.1.2.2.2.2.2.2.1,y12.2.1.2.2.2.2.2.2.2.1,y12.2.1.2.2.2.2.2.2.2.2.1,y12.2.2.2.1.1.set (I k0.names.length -1).toNat (BO (List.getD y12.2.2.2.1.1 (I k0.names.length -1).toNat (([]:List (List UInt8×Dop.B6)))) t1 A1),y12.2.1.2.2.2.2.2.2.2.2.2.2.1,y12.2.1.2.2.2.2.2.2.2.2.2.2.2.1,Dop.DR.mk y12.2.1.2.2.2.2.2.2.2.2.2.2.2.2.1 y12.2.1.2.2.2.2.2.2.2.2.2.2.2.2.2.1 y12.2.1.2.2.2.2.2.2.2.2.2.2.2.2.2.2.1 y12.2.1.2.2.2.2.2.2.2.2.2.2.2.2.2.2.2.1 y12.2.1.2.2.2.2.2.2.2.2.2.2.2.2.2.2.2.2.1,y12.2.1.2.2.2.2.2.2.2.2.2.2.2.2.2.2.2.2.2.1,y12.2.1.2.2.2.2.2.2.2.2.2.2.2.2.2.2.2.2.2.2.1,y12.2.1.2.2.2.2.2.2.2.2.2.2.2.2.2.2.2.2.2.2.2.1,y12.2.1.2.2.2.2.2.2.2.2.2.2.2.2.2.2.2.2.2.2.2.2.1,y12.2.1.2.2.2.2.2.2.2.2.2.2.2.2.2.2.2.2.2.2.2.2.2.1,y12.2.1.2.2.2.2.2.2.2.2.2.2.2.2.2.2.2.2.2.2.2.2.2.2.1,4,y12.1.1.at_,()) y12.2.2.1)<|
 z1)<|
 z1)<|
 (DY.k t2 y2.2.1).bind fun y6=>
 let z2:ee Dop.B6 Bool CK CT:=
 ck ((I k0.names.length -1).toNat<k0.names.length)<|
 Nn A1 (decide (k0.e=0)) (CK.X9 (CK.B8 k0 (k0.names.set (I k0.names.length -1).toNat (BO (List.getD k0.names (I k0.names.length -1).toNat (([]:List (List UInt8×Dop.B6)))) t1 A1))) (Dop.DR.mk k0.f.name k0.f.params k0.f.Al (k0.f.frame+y2.1.1) k0.f.body)) y6.2.1
 ci y6.1.1 (ci ((AL k0.taken t1).getD (0:Int)=0) (ci (k0.f.Al=4096) (ci (k0.e=0) ((Gz.k t3 k0.t k0.num k0.funcs k0.globals k0.top k0.nodes k0.sigs k0.taken k0.f k0.BX k0.labels k0.gotos k0.loops k0.BE k0.Gh k0.e k0.when y6.2.1 k0.names).bind fun y11=>
 ck ((I k0.names.length -1).toNat<y11.2.2.2.1.1.length)<|
 Nn (Dop.B6.mk 2 0 t2) (decide ((4:Int)=0)) (Dop.Fy.mk y11.2.1.1 y11.2.1.2.1 y11.2.1.2.2.1,(),y11.2.1.2.2.2.2.1,y11.2.1.2.2.2.2.2.1,y11.2.1.2.2.2.2.2.2.1,y11.2.1.2.2.2.2.2.2.2.1,y11.2.1.2.2.2.2.2.2.2.2.1,y11.2.2.2.1.1.set (I k0.names.length -1).toNat (BO (List.getD y11.2.2.2.1.1 (I k0.names.length -1).toNat (([]:List (List UInt8×Dop.B6)))) t1 (Dop.B6.mk 2 0 t2)),y11.2.1.2.2.2.2.2.2.2.2.2.2.1,y11.2.1.2.2.2.2.2.2.2.2.2.2.2.1,Dop.DR.mk y11.2.1.2.2.2.2.2.2.2.2.2.2.2.2.1 y11.2.1.2.2.2.2.2.2.2.2.2.2.2.2.2.1 y11.2.1.2.2.2.2.2.2.2.2.2.2.2.2.2.2.1 y11.2.1.2.2.2.2.2.2.2.2.2.2.2.2.2.2.2.1 y11.2.1.2.2.2.2.2.2.2.2.2.2.2.2.2.2.2.2.1,y11.2.1.2.2.2.2.2.2.2.2.2.2.2.2.2.2.2.2.2.1,y11.2.1.2.2.2.2.2.2.2.2.2.2.2.2.2.2.2.2.2.2.1,y11.2.1.2.2.2.2.2.2.2.2.2.2.2.2.2.2.2.2.2.2.2.1,y11.2.1.2.2.2.2.2.2.2.2.2.2.2.2.2.2.2.2.2.2.2.2.1,y11.2.1.2.2.2.2.2.2.2.2.2.2.2.2.2.2.2.2.2.2.2.2.2.1,y11.2.1.2.2.2.2.2.2.2.2.2.2.2.2.2.2.2.2.2.2.2.2.2.2.1,4,y11.1.1.at_,()) y11.2.2.1)<|
 ck ((I k0.names.length -1).toNat<k0.names.length)<|
 Nn (Dop.B6.mk 2 0 t2) (decide (k0.e=0)) (CK.B8 k0 (k0.names.set (I k0.names.length -1).toNat (BO (List.getD k0.names (I k0.names.length -1).toNat (([]:List (List UInt8×Dop.B6)))) t1 (Dop.B6.mk 2 0 t2)))) y6.2.1)<|
 ck (Ap (k0.f.Al+1))<|
 ck A4<|
 ck ((I k0.names.length -1).toNat<k0.names.length)<|
 Nn A2 (decide (k0.e=0)) (CK.X9 (CK.B8 k0 (k0.names.set (I k0.names.length -1).toNat (BO (List.getD k0.names (I k0.names.length -1).toNat (([]:List (List UInt8×Dop.B6)))) t1 A2))) A3) y6.2.1)<|
 ck (Ap (k0.f.frame+y2.1.1))<|
 ci (4096<k0.f.frame+y2.1.1) (ci (k0.e=0) ((Gz.k t3 k0.t k0.num k0.funcs k0.globals k0.top k0.nodes k0.sigs k0.taken (Dop.DR.mk k0.f.name k0.f.params k0.f.Al (k0.f.frame+y2.1.1) k0.f.body) k0.BX k0.labels k0.gotos k0.loops k0.BE k0.Gh k0.e k0.when y6.2.1 k0.names).bind fun y11=>
 ck ((I k0.names.length -1).toNat<y11.2.2.2.1.1.length)<|
 Nn A1 (decide ((4:Int)=0)) (Dop.Fy.mk y11.2.1.1 y11.2.1.2.1 y11.2.1.2.2.1,(),y11.2.1.2.2.2.2.1,y11.2.1.2.2.2.2.2.1,y11.2.1.2.2.2.2.2.2.1,y11.2.1.2.2.2.2.2.2.2.1,y11.2.1.2.2.2.2.2.2.2.2.1,y11.2.2.2.1.1.set (I k0.names.length -1).toNat (BO (List.getD y11.2.2.2.1.1 (I k0.names.length -1).toNat (([]:List (List UInt8×Dop.B6)))) t1 A1),y11.2.1.2.2.2.2.2.2.2.2.2.2.1,y11.2.1.2.2.2.2.2.2.2.2.2.2.2.1,Dop.DR.mk y11.2.1.2.2.2.2.2.2.2.2.2.2.2.2.1 y11.2.1.2.2.2.2.2.2.2.2.2.2.2.2.2.1 y11.2.1.2.2.2.2.2.2.2.2.2.2.2.2.2.2.1 y11.2.1.2.2.2.2.2.2.2.2.2.2.2.2.2.2.2.1 y11.2.1.2.2.2.2.2.2.2.2.2.2.2.2.2.2.2.2.1,y11.2.1.2.2.2.2.2.2.2.2.2.2.2.2.2.2.2.2.2.1,y11.2.1.2.2.2.2.2.2.2.2.2.2.2.2.2.2.2.2.2.2.1,y11.2.1.2.2.2.2.2.2.2.2.2.2.2.2.2.2.2.2.2.2.2.1,y11.2.1.2.2.2.2.2.2.2.2.2.2.2.2.2.2.2.2.2.2.2.2.1,y11.2.1.2.2.2.2.2.2.2.2.2.2.2.2.2.2.2.2.2.2.2.2.2.1,y11.2.1.2.2.2.2.2.2.2.2.2.2.2.2.2.2.2.2.2.2.2.2.2.2.1,4,y11.1.1.at_,()) y11.2.2.1)<|
 z2)<|
 z2)<|
 ck (Ap (k0.f.frame+y2.1.1))<|
 ci (4096<k0.f.frame+y2.1.1) (ci (k0.e=0) ((Gz.k t3 k0.t k0.num k0.funcs k0.globals k0.top k0.nodes k0.sigs k0.taken (Dop.DR.mk k0.f.name k0.f.params k0.f.Al (k0.f.frame+y2.1.1) k0.f.body) k0.BX k0.labels k0.gotos k0.loops k0.BE k0.Gh k0.e k0.when y6.2.1 k0.names).bind fun y10=>
 ck ((I k0.names.length -1).toNat<y10.2.2.2.1.1.length)<|
 Nn A1 (decide ((4:Int)=0)) (Dop.Fy.mk y10.2.1.1 y10.2.1.2.1 y10.2.1.2.2.1,(),y10.2.1.2.2.2.2.1,y10.2.1.2.2.2.2.2.1,y10.2.1.2.2.2.2.2.2.1,y10.2.1.2.2.2.2.2.2.2.1,y10.2.1.2.2.2.2.2.2.2.2.1,y10.2.2.2.1.1.set (I k0.names.length -1).toNat (BO (List.getD y10.2.2.2.1.1 (I k0.names.length -1).toNat (([]:List (List UInt8×Dop.B6)))) t1 A1),y10.2.1.2.2.2.2.2.2.2.2.2.2.1,y10.2.1.2.2.2.2.2.2.2.2.2.2.2.1,Dop.DR.mk y10.2.1.2.2.2.2.2.2.2.2.2.2.2.2.1 y10.2.1.2.2.2.2.2.2.2.2.2.2.2.2.2.1 y10.2.1.2.2.2.2.2.2.2.2.2.2.2.2.2.2.1 y10.2.1.2.2.2.2.2.2.2.2.2.2.2.2.2.2.2.1 y10.2.1.2.2.2.2.2.2.2.2.2.2.2.2.2.2.2.2.1,y10.2.1.2.2.2.2.2.2.2.2.2.2.2.2.2.2.2.2.2.1,y10.2.1.2.2.2.2.2.2.2.2.2.2.2.2.2.2.2.2.2.2.1,y10.2.1.2.2.2.2.2.2.2.2.2.2.2.2.2.2.2.2.2.2.2.1,y10.2.1.2.2.2.2.2.2.2.2.2.2.2.2.2.2.2.2.2.2.2.2.1,y10.2.1.2.2.2.2.2.2.2.2.2.2.2.2.2.2.2.2.2.2.2.2.2.1,y10.2.1.2.2.2.2.2.2.2.2.2.2.2.2.2.2.2.2.2.2.2.2.2.2.1,4,y10.1.1.at_,()) y10.2.2.1)<|
 z2)<|
 z2
def IG.Kc:=kd 130 IG.p fun x=>IG.k x.1.2.1 x.1.2.2.1 x.1.2.2.2.1 x.1.2.2.2.2.1 x.2.1 x.2.2.1
theorem IG.Kh:IG.Kc.Holds prog:=kh AH (hc Be.IL (hc DY.Kh (hc Ag.Kh (hc Gz.Kh hn)))) IG.ok (by kernel_rfl)
abbrev Ci.kr (r:F4.T) (n:Int) (k0:CK) (k1:CT):Ns CK CT:=r.1 (((),n,()),(k0,k1,()))
abbrev PL.T:Type:=Dop.ec->Int->CK->CT->Ns CK CT
abbrev Ci.KT:Type:=PL.T×Unit
def PL.kB (rK:F4.T) (tK:Ci.KT):PL.T:=fun t45 t46 k0 k1=>
 ci (t46<4) (ck (0<=t46/\t46<I 4)<|
 ci (0<=(t45.x0::t45.x1::t45.x2::t45.x3::[]).getD t46.toNat 0) ((Ci.kr rK ((t45.x0::t45.x1::t45.x2::t45.x3::[]).getD t46.toNat 0) k0 k1).bind fun y4=>
 ck (Ap (t46+1))<|
 tK.1 t45 (t46+1) y4.2.1 y4.2.2.1)<|
 ck (Ap (t46+1))<|
 tK.1 t45 (t46+1) k0 k1)<|
 Xs k0 k1
def Ci.kS (rK:F4.T) (tK:Ci.KT):Ci.KT:=(PL.kB rK tK,())
def Ci.kL (rK:F4.T) (n:Nat):Ci.KT:=Cv (Ci.kS rK) n
def Ci.k0 (rK:F4.T) (tK:Ci.KT) (n:Int) (k0:CK) (k1:CT):Ns CK CT:=
 (C0.k n k0.t k0.num k0.funcs k0.globals k0.top k0.nodes k0.names k0.sigs k0.f k0.BX k0.loops k0.BE k0.Gh k0.e k0.when k1).bind fun y2=>
 ci (y2.1.1.kind=3) (ci (y2.1.1.text=(38:UInt8)::[]) ((C0.k y2.1.1.a (Dop.Fy.mk y2.2.1.1 y2.2.1.2.1 y2.2.1.2.2.1) y2.2.1.2.2.2.2.1 y2.2.1.2.2.2.2.2.1 y2.2.1.2.2.2.2.2.2.1 y2.2.1.2.2.2.2.2.2.2.1 y2.2.1.2.2.2.2.2.2.2.2.1 y2.2.1.2.2.2.2.2.2.2.2.2.1 y2.2.1.2.2.2.2.2.2.2.2.2.2.1 (Dop.DR.mk y2.2.1.2.2.2.2.2.2.2.2.2.2.2.2.1 y2.2.1.2.2.2.2.2.2.2.2.2.2.2.2.2.1 y2.2.1.2.2.2.2.2.2.2.2.2.2.2.2.2.2.1 y2.2.1.2.2.2.2.2.2.2.2.2.2.2.2.2.2.2.1 y2.2.1.2.2.2.2.2.2.2.2.2.2.2.2.2.2.2.2.1) y2.2.1.2.2.2.2.2.2.2.2.2.2.2.2.2.2.2.2.2.1 y2.2.1.2.2.2.2.2.2.2.2.2.2.2.2.2.2.2.2.2.2.2.2.1 y2.2.1.2.2.2.2.2.2.2.2.2.2.2.2.2.2.2.2.2.2.2.2.2.1 y2.2.1.2.2.2.2.2.2.2.2.2.2.2.2.2.2.2.2.2.2.2.2.2.2.1 y2.2.1.2.2.2.2.2.2.2.2.2.2.2.2.2.2.2.2.2.2.2.2.2.2.2.1 y2.2.1.2.2.2.2.2.2.2.2.2.2.2.2.2.2.2.2.2.2.2.2.2.2.2.2.1 y2.2.2.1).bind fun y5=>
 ci (y5.1.1.kind=2) ((C0.k y2.1.1.a (Dop.Fy.mk y5.2.1.1 y5.2.1.2.1 y5.2.1.2.2.1) y5.2.1.2.2.2.2.1 y5.2.1.2.2.2.2.2.1 y5.2.1.2.2.2.2.2.2.1 y5.2.1.2.2.2.2.2.2.2.1 y5.2.1.2.2.2.2.2.2.2.2.1 y5.2.1.2.2.2.2.2.2.2.2.2.1 y5.2.1.2.2.2.2.2.2.2.2.2.2.1 (Dop.DR.mk y5.2.1.2.2.2.2.2.2.2.2.2.2.2.2.1 y5.2.1.2.2.2.2.2.2.2.2.2.2.2.2.2.1 y5.2.1.2.2.2.2.2.2.2.2.2.2.2.2.2.2.1 y5.2.1.2.2.2.2.2.2.2.2.2.2.2.2.2.2.2.1 y5.2.1.2.2.2.2.2.2.2.2.2.2.2.2.2.2.2.2.1) y5.2.1.2.2.2.2.2.2.2.2.2.2.2.2.2.2.2.2.2.1 y5.2.1.2.2.2.2.2.2.2.2.2.2.2.2.2.2.2.2.2.2.2.2.1 y5.2.1.2.2.2.2.2.2.2.2.2.2.2.2.2.2.2.2.2.2.2.2.2.1 y5.2.1.2.2.2.2.2.2.2.2.2.2.2.2.2.2.2.2.2.2.2.2.2.2.1 y5.2.1.2.2.2.2.2.2.2.2.2.2.2.2.2.2.2.2.2.2.2.2.2.2.2.1 y5.2.1.2.2.2.2.2.2.2.2.2.2.2.2.2.2.2.2.2.2.2.2.2.2.2.2.1 y5.2.2.1).bind fun y7=>
 ck (Ap ((AL k0.taken y7.1.1.text).getD (0:Int)+1))<|
 tK.1 (Dop.ec.mk y2.1.1.a y2.1.1.b y2.1.1.c y2.1.1.d) 0 ((CK.FY (CK.X8 (CK.K0 (CK.HC (CK.ID (CK.L1 (CK.X9 (CK.Zr (CK.I6 (CK.B8 (CK.E9 (CK.OT (CK.FL (CK.Js (CK.NU (CK.jJ k0 (Dop.Fy.mk y7.2.1.1 y7.2.1.2.1 y7.2.1.2.2.1)) y7.2.1.2.2.2.2.1) y7.2.1.2.2.2.2.2.1) y7.2.1.2.2.2.2.2.2.1) y7.2.1.2.2.2.2.2.2.2.1) y7.2.1.2.2.2.2.2.2.2.2.1) y7.2.1.2.2.2.2.2.2.2.2.2.1) y7.2.1.2.2.2.2.2.2.2.2.2.2.1) (BO k0.taken y7.1.1.text ((AL k0.taken y7.1.1.text).getD (0:Int)+1))) (Dop.DR.mk y7.2.1.2.2.2.2.2.2.2.2.2.2.2.2.1 y7.2.1.2.2.2.2.2.2.2.2.2.2.2.2.2.1 y7.2.1.2.2.2.2.2.2.2.2.2.2.2.2.2.2.1 y7.2.1.2.2.2.2.2.2.2.2.2.2.2.2.2.2.2.1 y7.2.1.2.2.2.2.2.2.2.2.2.2.2.2.2.2.2.2.1)) y7.2.1.2.2.2.2.2.2.2.2.2.2.2.2.2.2.2.2.2.1) y7.2.1.2.2.2.2.2.2.2.2.2.2.2.2.2.2.2.2.2.2.2.2.1) y7.2.1.2.2.2.2.2.2.2.2.2.2.2.2.2.2.2.2.2.2.2.2.2.1) y7.2.1.2.2.2.2.2.2.2.2.2.2.2.2.2.2.2.2.2.2.2.2.2.2.1) y7.2.1.2.2.2.2.2.2.2.2.2.2.2.2.2.2.2.2.2.2.2.2.2.2.2.1) y7.2.1.2.2.2.2.2.2.2.2.2.2.2.2.2.2.2.2.2.2.2.2.2.2.2.2.1)) y7.2.2.1)<|
 tK.1 (Dop.ec.mk y2.1.1.a y2.1.1.b y2.1.1.c y2.1.1.d) 0 ((CK.FY (CK.X8 (CK.K0 (CK.HC (CK.ID (CK.L1 (CK.X9 (CK.I6 (CK.B8 (CK.E9 (CK.OT (CK.FL (CK.Js (CK.NU (CK.jJ k0 (Dop.Fy.mk y5.2.1.1 y5.2.1.2.1 y5.2.1.2.2.1)) y5.2.1.2.2.2.2.1) y5.2.1.2.2.2.2.2.1) y5.2.1.2.2.2.2.2.2.1) y5.2.1.2.2.2.2.2.2.2.1) y5.2.1.2.2.2.2.2.2.2.2.1) y5.2.1.2.2.2.2.2.2.2.2.2.1) y5.2.1.2.2.2.2.2.2.2.2.2.2.1) (Dop.DR.mk y5.2.1.2.2.2.2.2.2.2.2.2.2.2.2.1 y5.2.1.2.2.2.2.2.2.2.2.2.2.2.2.2.1 y5.2.1.2.2.2.2.2.2.2.2.2.2.2.2.2.2.1 y5.2.1.2.2.2.2.2.2.2.2.2.2.2.2.2.2.2.1 y5.2.1.2.2.2.2.2.2.2.2.2.2.2.2.2.2.2.2.1)) y5.2.1.2.2.2.2.2.2.2.2.2.2.2.2.2.2.2.2.2.1) y5.2.1.2.2.2.2.2.2.2.2.2.2.2.2.2.2.2.2.2.2.2.2.1) y5.2.1.2.2.2.2.2.2.2.2.2.2.2.2.2.2.2.2.2.2.2.2.2.1) y5.2.1.2.2.2.2.2.2.2.2.2.2.2.2.2.2.2.2.2.2.2.2.2.2.1) y5.2.1.2.2.2.2.2.2.2.2.2.2.2.2.2.2.2.2.2.2.2.2.2.2.2.1) y5.2.1.2.2.2.2.2.2.2.2.2.2.2.2.2.2.2.2.2.2.2.2.2.2.2.2.1)) y5.2.2.1)<|
 tK.1 (Dop.ec.mk y2.1.1.a y2.1.1.b y2.1.1.c y2.1.1.d) 0 ((CK.FY (CK.X8 (CK.K0 (CK.HC (CK.ID (CK.L1 (CK.X9 (CK.I6 (CK.B8 (CK.E9 (CK.OT (CK.FL (CK.Js (CK.NU (CK.jJ k0 (Dop.Fy.mk y2.2.1.1 y2.2.1.2.1 y2.2.1.2.2.1)) y2.2.1.2.2.2.2.1) y2.2.1.2.2.2.2.2.1) y2.2.1.2.2.2.2.2.2.1) y2.2.1.2.2.2.2.2.2.2.1) y2.2.1.2.2.2.2.2.2.2.2.1) y2.2.1.2.2.2.2.2.2.2.2.2.1) y2.2.1.2.2.2.2.2.2.2.2.2.2.1) (Dop.DR.mk y2.2.1.2.2.2.2.2.2.2.2.2.2.2.2.1 y2.2.1.2.2.2.2.2.2.2.2.2.2.2.2.2.1 y2.2.1.2.2.2.2.2.2.2.2.2.2.2.2.2.2.1 y2.2.1.2.2.2.2.2.2.2.2.2.2.2.2.2.2.2.1 y2.2.1.2.2.2.2.2.2.2.2.2.2.2.2.2.2.2.2.1)) y2.2.1.2.2.2.2.2.2.2.2.2.2.2.2.2.2.2.2.2.1) y2.2.1.2.2.2.2.2.2.2.2.2.2.2.2.2.2.2.2.2.2.2.2.1) y2.2.1.2.2.2.2.2.2.2.2.2.2.2.2.2.2.2.2.2.2.2.2.2.1) y2.2.1.2.2.2.2.2.2.2.2.2.2.2.2.2.2.2.2.2.2.2.2.2.2.1) y2.2.1.2.2.2.2.2.2.2.2.2.2.2.2.2.2.2.2.2.2.2.2.2.2.2.1) y2.2.1.2.2.2.2.2.2.2.2.2.2.2.2.2.2.2.2.2.2.2.2.2.2.2.2.1)) y2.2.2.1)<|
 tK.1 (Dop.ec.mk y2.1.1.a y2.1.1.b y2.1.1.c y2.1.1.d) 0 ((CK.FY (CK.X8 (CK.K0 (CK.HC (CK.ID (CK.L1 (CK.X9 (CK.I6 (CK.B8 (CK.E9 (CK.OT (CK.FL (CK.Js (CK.NU (CK.jJ k0 (Dop.Fy.mk y2.2.1.1 y2.2.1.2.1 y2.2.1.2.2.1)) y2.2.1.2.2.2.2.1) y2.2.1.2.2.2.2.2.1) y2.2.1.2.2.2.2.2.2.1) y2.2.1.2.2.2.2.2.2.2.1) y2.2.1.2.2.2.2.2.2.2.2.1) y2.2.1.2.2.2.2.2.2.2.2.2.1) y2.2.1.2.2.2.2.2.2.2.2.2.2.1) (Dop.DR.mk y2.2.1.2.2.2.2.2.2.2.2.2.2.2.2.1 y2.2.1.2.2.2.2.2.2.2.2.2.2.2.2.2.1 y2.2.1.2.2.2.2.2.2.2.2.2.2.2.2.2.2.1 y2.2.1.2.2.2.2.2.2.2.2.2.2.2.2.2.2.2.1 y2.2.1.2.2.2.2.2.2.2.2.2.2.2.2.2.2.2.2.1)) y2.2.1.2.2.2.2.2.2.2.2.2.2.2.2.2.2.2.2.2.1) y2.2.1.2.2.2.2.2.2.2.2.2.2.2.2.2.2.2.2.2.2.2.2.1) y2.2.1.2.2.2.2.2.2.2.2.2.2.2.2.2.2.2.2.2.2.2.2.2.1) y2.2.1.2.2.2.2.2.2.2.2.2.2.2.2.2.2.2.2.2.2.2.2.2.2.1) y2.2.1.2.2.2.2.2.2.2.2.2.2.2.2.2.2.2.2.2.2.2.2.2.2.2.1) y2.2.1.2.2.2.2.2.2.2.2.2.2.2.2.2.2.2.2.2.2.2.2.2.2.2.2.1)) y2.2.2.1
def Ci.kf (rK:F4.T) (n:Int) (k0:CK) (k1:CT):Ns CK CT:=Ci.k0 rK (Ci.kL rK 1000000) n k0 k1
def F4.kS (r:F4.T):F4.T:=(fun x=>Ci.kf r x.1.2.1 x.2.1 x.2.2.1,())
def F4.kR (n:Nat):F4.T:=Cv F4.kS n
def Ci.Kc (n:Nat):=kd 129 Ci.p (F4.kR n).1
def Ci.Od:=Ci.Kc FU
def Ci.k:=Ci.kr (F4.kR FU)
def F4.Re (n:Nat):List (CC Dop.D4):=[Ci.Kc n]
theorem F4.E0: ∀ n,(Ci.Kc n).Holds prog/\True
 | 0=>⟨AN AH Ci.ok,trivial⟩
 | n+1=>by
  obtain ⟨h0,_⟩:=F4.E0 n
  have hh: ∀ c∈F4.Re n,c.Holds prog:=(hc h0 hn)
  exact ⟨E7 AH (Ac hh (hc C0.Kh hn)) Ci.ok (fun t x=>Ci.k0 (F4.kR n) t x.1.2.1 x.2.1 x.2.2.1) (fun c=>(fun t45 t46 k0 k1=>c 4 Ci.q4 rfl (((),t45,t46,()),(k0,k1,())),())) (Ci.kS (F4.kR n)) (by kernel_rfl),
   trivial⟩
theorem Ci.IL:Ci.Od.Holds prog:=(F4.E0 FU).1
def Gy.k (n:Int) (k0:CH) (k1:CT):R2 Dop.AR CH CT:=
 let A1:=AV (Dop.AR.mk 0 (-1) (-1) (-1) (-1) [] 0 0 0) k0 k1
 ci (n<0) A1<|
 ci (I k0.t.nodes.length<=n) A1<|
 ck (0<=n/\n<I k0.t.nodes.length)<|
 AV (List.getD k0.t.nodes n.toNat Dop.d5) k0 k1
def Gy.Kc:=kd 74 Gy.p fun x=>Gy.k x.1.2.1 x.2.1 x.2.2.1
theorem Gy.Kh:Gy.Kc.Holds prog:=kh AH hn Gy.ok (by kernel_rfl)
def Ce.k (e n:Int) (k0:CH) (k1:CT):R2 Dop.Ae CH CT:=
 let A1:=Dop.Ae.mk (-1) 1 0 0 false
 ci (k0.e=0) ((Gy.k n k0 k1).bind fun y3=>
 AV A1 (CH.FY (CH.X8 y3.2.1 e) y3.1.1.at_) y3.2.2.1)<|
 AV A1 k0 k1
def Ce.Kc:=kd 123 Ce.p fun x=>Ce.k x.1.2.1 x.1.2.2.1 x.2.1 x.2.2.1
theorem Ce.Kh:Ce.Kc.Holds prog:=kh AH (hc Gy.Kh hn) Ce.ok (by kernel_rfl)
abbrev LS.T:Type:=Int->Int->Int->CH->CT->R2 Int CH CT
abbrev Ja.T:Type:=Int->Int->Int->Int->Int->CH->CT->R2 Int CH CT
abbrev BU.KT:Type:=LS.T×Ja.T×Unit
def LS.kB (tK:BU.KT):LS.T:=fun t1 t2 t7 k0 k1=>
 let A1:=List.getD k0.t.types t7.toNat Dop.d6
 let A2:=List.getD k0.num A1.elem.toNat 0
 let z1:R2 Int CH CT:=
 ck (0<=t1/\t1<I k0.num.length)<|
 ck (t1.toNat<k0.num.length)<|
 AV (List.getD k0.num t1.toNat 0) k0 k1
 ci (t7<=t1) (ci (t7<I k0.t.types.length) (ck (0<=t7/\t7<I k0.t.types.length)<|
 ci (A1.kind=4) (ck (0<=A1.elem/\A1.elem<I k0.num.length)<|
 ck (A1.elem.toNat<k0.num.length)<|
 (Ip.k A2 k1).bind fun y5=>
 tK.2.1 t1 t2 t7 y5.1.1 y5.1.2.1 k0 y5.2.1)<|
 ci (A1.kind=5) (ck (0<=A1.elem/\A1.elem<I k0.num.length)<|
 ck (A1.elem.toNat<k0.num.length)<|
 (KO.k A2 (A1.n) k1).bind fun y6=>
 tK.2.1 t1 t2 t7 y6.1.1 y6.1.2.1 k0 y6.2.1)<|
 ci (A1.kind=6) ((Iq.k (A1.name) k1).bind fun y7=>
 tK.2.1 t1 t2 t7 y7.1.1 y7.1.2.1 k0 y7.2.1)<|
 tK.2.1 t1 t2 t7 t7 0 k0 k1)<|
 z1)<|
 z1
def Ja.kB (tK:BU.KT):Ja.T:=fun t1 t2 t7 t9 t10 k0 k1=>
 ci (!(t10=0)) ((Ce.k t10 t2 k0 k1).bind fun y3=>
 AV 1 y3.2.1 y3.2.2.1)<|
 ck (Cc none (room 8 (k0.num.length+(t9::[]).length)))<|
 ck (Ap (t7+1))<|
 tK.1 t1 t2 (t7+1) ((CH.NU k0 (k0.num++t9::[]))) k1
def BU.kS (tK:BU.KT):BU.KT:=(LS.kB tK,Ja.kB tK,())
def BU.kL (n:Nat):BU.KT:=Cv BU.kS n
def BU.k0 (tK:BU.KT) (t1 t2:Int) (k0:CH) (k1:CT):R2 Int CH CT:=
 tK.1 t1 t2 (I k0.num.length) k0 k1
def BU.k (t1 t2:Int) (k0:CH) (k1:CT):R2 Int CH CT:=BU.k0 (BU.kL 1000000) t1 t2 k0 k1
def BU.Kc:=kd 121 BU.p fun x=>BU.k x.1.2.1 x.1.2.2.1 x.2.1 x.2.2.1
theorem BU.Kh:BU.Kc.Holds prog:=E7 AH (hc Ip.Kh (hc KO.Kh (hc Iq.Kh (hc Ce.Kh hn)))) BU.ok (fun t x=>BU.k0 t x.1.2.1 x.1.2.2.1 x.2.1 x.2.2.1) (fun c=>(fun t1 t2 t7 k0 k1=>c 2 BU.q2 rfl (((),t1,t2,t7,()),(k0,k1,())),fun t1 t2 t7 t9 t10 k0 k1=>c 13 BU.Xq rfl (((),t1,t2,t7,t9,t10,()),(k0,k1,())),())) BU.kS (by kernel_rfl)
abbrev Ph.T:Type:=Int->List Dop.No->List Int->Int->Int->CH->CT->Dop.AR->Ns CH CT
abbrev EN.KT:Type:=Ph.T×Unit
def Ph.kB (tK:EN.KT):Ph.T:=fun n l t16 t17 t18 k0 k1 b2=>
 let A1:=List.getD t16 t18.toNat 0
 ci (t18<t17) (ck (0<=t18/\t18<I t16.length)<|
 ck (t18.toNat<t16.length)<|
 (Gy.k A1 k0 k1).bind fun y3=>
 (Gy.k A1 y3.2.1 y3.2.2.1).bind fun y4=>
 (BU.k y4.1.1.AZ A1 y4.2.1 y4.2.2.1).bind fun y5=>
 ck (Cc none (room 24 (l.length+(Dop.No.mk y3.1.1.text y5.1.1::[]).length)))<|
 ck (Ap (t18+1))<|
 tK.1 n (l++Dop.No.mk y3.1.1.text y5.1.1::[]) t16 t17 (t18+1) y5.2.1 y5.2.2.1 b2)<|
 ci (!(k0.e=0)) (Xs k0 k1)<|
 (DX.k b2.text l k1).bind fun y4=>
 ci (!(y4.1.1=0)) ((Ce.k y4.1.1 n k0 y4.2.1).bind cz)<|
 Xs k0 y4.2.1
def EN.kS (tK:EN.KT):EN.KT:=(Ph.kB tK,())
def EN.kL (n:Nat):EN.KT:=Cv EN.kS n
def EN.k0 (tK:EN.KT) (x:Dop.AR) (n:Int) (k0:CH) (k1:CT):Ns CH CT:=
 (Ga.k k0.t x.a).bind fun y2=>
 tK.1 n [] y2.1.1 (I y2.1.1.length) 0 k0 k1 x
def EN.k (x:Dop.AR) (n:Int) (k0:CH) (k1:CT):Ns CH CT:=EN.k0 (EN.kL 1000000) x n k0 k1
def EN.Kc:=kd 75 EN.p fun x=>EN.k x.1.2.1 x.1.2.2.1 x.2.1 x.2.2.1
theorem EN.Kh:EN.Kc.Holds prog:=E7 AH (hc Ga.Kh (hc Gy.Kh (hc BU.Kh (hc DX.Kh (hc Ce.Kh hn))))) EN.ok (fun t x=>EN.k0 t x.1.2.1 x.1.2.2.1 x.2.1 x.2.2.1) (fun c=>(fun n l t16 t17 t18 k0 k1 b2=>c 3 EN.q3 rfl (((),n,(),l,t16,t17,t18,()),(k0,k1,(b2,()),())),())) EN.kS (by kernel_rfl)
def Fl.k (t:Int) (k0:CH) (k1:CT):R2 Int CH CT:=
 (Ex.k t k1).bind fun y2=>
 AV y2.1.1.kind k0 y2.2.1
def Fl.Kc:=kd 127 Fl.p fun x=>Fl.k x.1.2.1 x.2.1 x.2.2.1
theorem Fl.Kh:Fl.Kc.Holds prog:=kh AH (hc Ex.Kh hn) Fl.ok (by kernel_rfl)
def Hc.k (t:Int) (k0:CH) (k1:CT):R2 Bool CH CT:=
 (Fl.k t k0 k1).bind fun y2=>
 ci (y2.1.1=1) (AV true y2.2.1 y2.2.2.1)<|
 ci (y2.1.1=2) (AV true y2.2.1 y2.2.2.1)<|
 AV (decide (y2.1.1=3)) y2.2.1 y2.2.2.1
def Hc.Kc:=kd 125 Hc.p fun x=>Hc.k x.1.2.1 x.2.1 x.2.2.1
theorem Hc.Kh:Hc.Kc.Holds prog:=kh AH (hc Fl.Kh hn) Hc.ok (by kernel_rfl)
abbrev Lw.T:Type:=Int->Int->Int->CH->CT->Dop.AR->Ns CH CT
abbrev EO.KT:Type:=Lw.T×Unit
def Lw.kB (tK:EO.KT):Lw.T:=fun t6 t7 t13 k0 k1 b2=>
 ck ((0:Int)<=0/\0<I k0.names.length)<|
 ck (Int.toNat 0<k0.names.length)<|
 ck (Int.toNat 0<k0.names.length)<|
 ck (Cc none (room 40 (k0.globals.length+(Dop.Ni.mk b2.text k0.top t7 t13::[]).length)))<|
 ck (Ap (k0.top+t7))<|
 Xs (CH.B8 (CH.OT (CH.FL k0 (k0.globals++Dop.Ni.mk b2.text k0.top t7 t13::[])) (k0.top+t7)) (k0.names.set (Int.toNat 0) (BO (List.getD k0.names (Int.toNat 0) (([]:List (List UInt8×Dop.B6)))) b2.text (Dop.B6.mk 1 k0.top t6)))) k1
def EO.kS (tK:EO.KT):EO.KT:=(Lw.kB tK,())
def EO.kL (n:Nat):EO.KT:=Cv EO.kS n
def EO.k0 (tK:EO.KT) (t1:Dop.AR) (t2:Int) (k0:CH) (k1:CT):Ns CH CT:=
 (BU.k t1.AZ t2 k0 k1).bind fun y2=>
 (Be.k y2.1.1 y2.2.2.1).bind fun y3=>
 ck ((0:Int)<=0/\0<I (CH.names y2.2.1).length)<|
 ck (Int.toNat 0<(CH.names y2.2.1).length)<|
 ck (Int.toNat 0<(CH.names y2.2.1).length)<|
 ci (!(CH.e y2.2.1=0)) (Xs y2.2.1 y3.2.1)<|
 ci ((AL (List.getD (CH.names y2.2.1) (Int.toNat 0) (([]:List (List UInt8×Dop.B6)))) t1.text).isSome) ((Ce.k 7 t2 y2.2.1 y3.2.1).bind cz)<|
 ci ((AL (CH.sigs y2.2.1) t1.text).isSome) ((Ce.k 7 t2 y2.2.1 y3.2.1).bind cz)<|
 ci (!y3.1.2.1) ((Ce.k 8 t2 y2.2.1 y3.2.1).bind cz)<|
 ci (!(t1.n=0)) ((Hc.k y2.1.1 y2.2.1 y3.2.1).bind fun y9=>
 ci (!y9.1.1) ((Ce.k 8 t2 y9.2.1 y9.2.2.1).bind cz)<|
 ck (Ap (CH.top y9.2.1+y3.1.1))<|
 ci (4096<CH.top y9.2.1+y3.1.1) ((Ce.k 4 t2 y9.2.1 y9.2.2.1).bind cz)<|
 (Ea.k t1.n).bind fun y12=>
 (Fl.k y2.1.1 y9.2.1 y9.2.2.1).bind fun y13=>
 ci (y13.1.1=3) (tK.1 y2.1.1 y3.1.1 (bits BinOp.and IntKind.i64 y12.1.1 255) y13.2.1 y13.2.2.1 t1)<|
 tK.1 y2.1.1 y3.1.1 y12.1.1 y13.2.1 y13.2.2.1 t1)<|
 ck (Ap (CH.top y2.2.1+y3.1.1))<|
 ci (4096<CH.top y2.2.1+y3.1.1) ((Ce.k 4 t2 y2.2.1 y3.2.1).bind cz)<|
 (Ea.k t1.n).bind fun y10=>
 (Fl.k y2.1.1 y2.2.1 y3.2.1).bind fun y11=>
 ci (y11.1.1=3) (tK.1 y2.1.1 y3.1.1 (bits BinOp.and IntKind.i64 y10.1.1 255) y11.2.1 y11.2.2.1 t1)<|
 tK.1 y2.1.1 y3.1.1 y10.1.1 y11.2.1 y11.2.2.1 t1
def EO.k (t1:Dop.AR) (t2:Int) (k0:CH) (k1:CT):Ns CH CT:=EO.k0 (EO.kL 1000000) t1 t2 k0 k1
def EO.Kc:=kd 76 EO.p fun x=>EO.k x.1.2.1 x.1.2.2.1 x.2.1 x.2.2.1
theorem EO.Kh:EO.Kc.Holds prog:=E7 AH (hc BU.Kh (hc Be.IL (hc Ce.Kh (hc Hc.Kh (hc Ea.Kh (hc Fl.Kh hn)))))) EO.ok (fun t x=>EO.k0 t x.1.2.1 x.1.2.2.1 x.2.1 x.2.2.1) (fun c=>(fun t6 t7 t13 k0 k1 b2=>c 15 EO.aW rfl (((),(),t6,t7,t13,()),(k0,k1,(b2,()),())),())) EO.kS (by kernel_rfl)
abbrev Pj.T:Type:=Int->List Int->CH->CT->Dop.AR->List Int->Int->Ns CH CT
abbrev Lx.T:Type:=Int->List Int->Int->Int->CH->CT->Dop.AR->List Int->Int->Ns CH CT
abbrev DZ.KT:Type:=Pj.T×Lx.T×Unit
def Pj.kB (tK:DZ.KT):Pj.T:=fun t2 t11 k0 k1 b2 b3_0 b3_1=>
 let A1:=Ce.k 4 t2 k0 k1
 ci (k0.e=0) (ci (6<I t11.length) (A1.bind fun y4=>
 tK.2.1 t2 t11 (I t11.length) 0 y4.2.1 y4.2.2.1 b2 b3_0 b3_1)<|
 ci (I k0.sigs.length=64) (A1.bind fun y5=>
 tK.2.1 t2 t11 (I t11.length) 0 y5.2.1 y5.2.2.1 b2 b3_0 b3_1)<|
 tK.2.1 t2 t11 (I t11.length) 0 k0 k1 b2 b3_0 b3_1)<|
 tK.2.1 t2 t11 (I t11.length) 0 k0 k1 b2 b3_0 b3_1
def Lx.kB (tK:DZ.KT):Lx.T:=fun t2 t85 t86 t87 k0 k1 b2 b3_0 b3_1=>
 let A2:=List.getD t85 t87.toNat 0
 let A1:=CH.I6 k0 (BO k0.sigs b2.text (Dop.Of.mk b3_0 b3_1))
 ci (t87<t86) (ck (0<=t87/\t87<I t85.length)<|
 ck (t87.toNat<t85.length)<|
 (Gy.k A2 k0 k1).bind fun y3=>
 (BU.k y3.1.1.AZ A2 y3.2.1 y3.2.2.1).bind fun y4=>
 ci (CH.e y4.2.1=0) ((DY.k y4.1.1 y4.2.2.1).bind fun y6=>
 ci (!y6.1.1) ((Ce.k 8 A2 y4.2.1 y6.2.1).bind fun y8=>
 ck (Cc none (room 8 (b3_0.length+(y4.1.1::[]).length)))<|
 ck (Ap (t87+1))<|
 tK.2.1 t2 t85 t86 (t87+1) y8.2.1 y8.2.2.1 b2 (b3_0++y4.1.1::[]) b3_1)<|
 ck (Cc none (room 8 (b3_0.length+(y4.1.1::[]).length)))<|
 ck (Ap (t87+1))<|
 tK.2.1 t2 t85 t86 (t87+1) y4.2.1 y6.2.1 b2 (b3_0++y4.1.1::[]) b3_1)<|
 ck (Cc none (room 8 (b3_0.length+(y4.1.1::[]).length)))<|
 ck (Ap (t87+1))<|
 tK.2.1 t2 t85 t86 (t87+1) y4.2.1 y4.2.2.1 b2 (b3_0++y4.1.1::[]) b3_1)<|
 ci (k0.e=0) (ci (!(b3_1=0)) ((DY.k b3_1 k1).bind fun y5=>
 ci (!y5.1.1) ((Ce.k 8 t2 k0 y5.2.1).bind fun y7=>
 Xs (CH.I6 y7.2.1 (BO (CH.sigs y7.2.1) b2.text (Dop.Of.mk b3_0 b3_1))) y7.2.2.1)<|
 Xs A1 y5.2.1)<|
 Xs A1 k1)<|
 Xs A1 k1
def DZ.kS (tK:DZ.KT):DZ.KT:=(Pj.kB tK,Lx.kB tK,())
def DZ.kL (n:Nat):DZ.KT:=Cv DZ.kS n
def DZ.k0 (tK:DZ.KT) (t1:Dop.AR) (t2:Int) (k0:CH) (k1:CT):Ns CH CT:=
 (BU.k t1.AZ t2 k0 k1).bind fun y2=>
 ck ((0:Int)<=0/\0<I (CH.names y2.2.1).length)<|
 ck (Int.toNat 0<(CH.names y2.2.1).length)<|
 ck (Int.toNat 0<(CH.names y2.2.1).length)<|
 (Ga.k (CH.t y2.2.1) t1.a).bind fun y3=>
 ci (CH.e y2.2.1=0) (ci ((AL (CH.sigs y2.2.1) t1.text).isSome) ((Ce.k 7 t2 y2.2.1 y2.2.2.1).bind fun y6=>
 tK.1 t2 y3.1.1 y6.2.1 y6.2.2.1 t1 [] y2.1.1)<|
 ci ((AL (List.getD (CH.names y2.2.1) (Int.toNat 0) (([]:List (List UInt8×Dop.B6)))) t1.text).isSome) ((Ce.k 7 t2 y2.2.1 y2.2.2.1).bind fun y7=>
 tK.1 t2 y3.1.1 y7.2.1 y7.2.2.1 t1 [] y2.1.1)<|
 tK.1 t2 y3.1.1 y2.2.1 y2.2.2.1 t1 [] y2.1.1)<|
 tK.1 t2 y3.1.1 y2.2.1 y2.2.2.1 t1 [] y2.1.1
def DZ.k (t1:Dop.AR) (t2:Int) (k0:CH) (k1:CT):Ns CH CT:=DZ.k0 (DZ.kL 1000000) t1 t2 k0 k1
def DZ.Kc:=kd 77 DZ.p fun x=>DZ.k x.1.2.1 x.1.2.2.1 x.2.1 x.2.2.1
theorem DZ.Kh:DZ.Kc.Holds prog:=E7 AH (hc BU.Kh (hc Ga.Kh (hc Ce.Kh (hc Gy.Kh (hc DY.Kh hn))))) DZ.ok (fun t x=>DZ.k0 t x.1.2.1 x.1.2.2.1 x.2.1 x.2.2.1) (fun c=>(fun t2 t11 k0 k1 b2 b3_0 b3_1=>c 7 DZ.q7 rfl (((),t2,(),(),t11,()),(k0,k1,(b2,()),(b3_0,b3_1,()),())),fun t2 t85 t86 t87 k0 k1 b2 b3_0 b3_1=>c 10 DZ.UA rfl (((),t2,(),(),t85,t86,t87,()),(k0,k1,(b2,()),(b3_0,b3_1,()),())),())) DZ.kS (by kernel_rfl)
def Jc.k (n:Int) (k0:CK) (k1:CT):R2 Int CK CT:=
 ci (n<0) (AV (-1) k0 k1)<|
 (Bc.k n k0 k1).bind fun y3=>
 AV y3.1.1.n y3.2.1 y3.2.2.1
def Jc.Kc:=kd 166 Jc.p fun x=>Jc.k x.1.2.1 x.2.1 x.2.2.1
theorem Jc.Kh:Jc.Kc.Holds prog:=kh AH (hc Bc.IL hn) Jc.ok (by kernel_rfl)
def Mr.k (x:Dop.AR) (n:Int) (k0:CK) (k1:CT):R2 Int CK CT:=
 ci (x.a<0) ((Bp.k 37 ((-1)) ((-1)) ((-1)) ((-1)) 0 [] k0 k1).bind A7)<|
 (CZ.k x.a k0 k1).bind fun y3=>
 ci (CK.e y3.2.1=0) (ci (CK.BX y3.2.1=0) ((Ag.k 8 n y3.2.1 y3.2.2.1).bind fun y6=>
 AV y6.1.1.n y6.2.1 y6.2.2.1)<|
 (BN.k y3.1.1 (CK.BX y3.2.1) n false y3.2.1 y3.2.2.1).bind fun y6=>
 (Bp.k 37 y6.1.1 ((-1)) ((-1)) ((-1)) 0 [] y6.2.1 y6.2.2.1).bind A7)<|
 (BN.k y3.1.1 (CK.BX y3.2.1) n false y3.2.1 y3.2.2.1).bind fun y5=>
 (Bp.k 37 y5.1.1 ((-1)) ((-1)) ((-1)) 0 [] y5.2.1 y5.2.2.1).bind A7
def Mr.Kc:=kd 169 Mr.p fun x=>Mr.k x.1.2.1 x.1.2.2.1 x.2.1 x.2.2.1
theorem Mr.Kh:Mr.Kc.Holds prog:=kh AH (hc Bp.Kh (hc CZ.IL (hc Ag.Kh (hc BN.Kh hn)))) Mr.ok (by kernel_rfl)
def Ms.k (t1:Dop.AR) (t2:Int) (k0:CK) (k1:CT):R2 Int CK CT:=
 let A1:=Dop.Ae.mk (-1) 1 0 0 true
 (C9.k t1.AZ t2 k0 k1).bind fun y2=>
 ci (0<=t1.a) ((CZ.k t1.a y2.2.1 y2.2.2.1).bind fun y4=>
 (IG.k t1.text y2.1.1 t2 false y4.2.1 y4.2.2.1).bind fun y5=>
 ci (!y5.1.2.1) (AV (-1) y5.2.1 y5.2.2.1)<|
 (DY.k y2.1.1 y5.2.2.1).bind fun y7=>
 ci (!y7.1.1) (ci (0<=t1.a) ((Ag.k 8 t2 y5.2.1 y7.2.1).bind fun y10=>
 AV y10.1.1.n y10.2.1 y10.2.2.1)<|
 (Bp.k 44 ((-1)) ((-1)) ((-1)) ((-1)) 0 [] y5.2.1 y7.2.1).bind A7)<|
 ci (t1.a<0) ((Em.k 0 y5.2.1 y7.2.1).bind fun y10=>
 ci (y5.1.1.kind=3) ((Ff.k y5.1.1 y10.2.1 y10.2.2.1).bind fun y12=>
 (BN.k (Dop.Ae.mk y10.1.1 y4.1.1.Ay y4.1.1.left y4.1.1.at_ y4.1.1.zero) y2.1.1 t2 false y12.2.1 y12.2.2.1).bind fun y13=>
 (Df.k (Dop.Ae.mk 0 y2.1.1 2 y12.1.1 false) y13.1.1 y13.2.1 y13.2.2.1).bind fun y14=>
 (Bp.k 30 y14.1.1 ((-1)) ((-1)) ((-1)) 0 [] y14.2.1 y14.2.2.1).bind A7)<|
 (BN.k (Dop.Ae.mk y10.1.1 y4.1.1.Ay y4.1.1.left y4.1.1.at_ y4.1.1.zero) y2.1.1 t2 false y10.2.1 y10.2.2.1).bind fun y12=>
 (Df.k (Dop.Ae.mk 0 y2.1.1 1 y5.1.1.n false) y12.1.1 y12.2.1 y12.2.2.1).bind fun y13=>
 (Bp.k 30 y13.1.1 ((-1)) ((-1)) ((-1)) 0 [] y13.2.1 y13.2.2.1).bind A7)<|
 ci (y5.1.1.kind=3) ((Ff.k y5.1.1 y5.2.1 y7.2.1).bind fun y11=>
 (BN.k y4.1.1 y2.1.1 t2 false y11.2.1 y11.2.2.1).bind fun y12=>
 (Df.k (Dop.Ae.mk 0 y2.1.1 2 y11.1.1 false) y12.1.1 y12.2.1 y12.2.2.1).bind fun y13=>
 (Bp.k 30 y13.1.1 ((-1)) ((-1)) ((-1)) 0 [] y13.2.1 y13.2.2.1).bind A7)<|
 (BN.k y4.1.1 y2.1.1 t2 false y5.2.1 y7.2.1).bind fun y11=>
 (Df.k (Dop.Ae.mk 0 y2.1.1 1 y5.1.1.n false) y11.1.1 y11.2.1 y11.2.2.1).bind fun y12=>
 (Bp.k 30 y12.1.1 ((-1)) ((-1)) ((-1)) 0 [] y12.2.1 y12.2.2.1).bind A7)<|
 (IG.k t1.text y2.1.1 t2 false y2.2.1 y2.2.2.1).bind fun y4=>
 ci (!y4.1.2.1) (AV (-1) y4.2.1 y4.2.2.1)<|
 (DY.k y2.1.1 y4.2.2.1).bind fun y6=>
 ci (!y6.1.1) (ci (0<=t1.a) ((Ag.k 8 t2 y4.2.1 y6.2.1).bind fun y9=>
 AV y9.1.1.n y9.2.1 y9.2.2.1)<|
 (Bp.k 44 ((-1)) ((-1)) ((-1)) ((-1)) 0 [] y4.2.1 y6.2.1).bind A7)<|
 ci (t1.a<0) ((Em.k 0 y4.2.1 y6.2.1).bind fun y9=>
 ci (y4.1.1.kind=3) ((Ff.k y4.1.1 y9.2.1 y9.2.2.1).bind fun y11=>
 (BN.k (Dop.Ae.mk y9.1.1 1 0 0 true) y2.1.1 t2 false y11.2.1 y11.2.2.1).bind fun y12=>
 (Df.k (Dop.Ae.mk 0 y2.1.1 2 y11.1.1 false) y12.1.1 y12.2.1 y12.2.2.1).bind fun y13=>
 (Bp.k 30 y13.1.1 ((-1)) ((-1)) ((-1)) 0 [] y13.2.1 y13.2.2.1).bind A7)<|
 (BN.k (Dop.Ae.mk y9.1.1 1 0 0 true) y2.1.1 t2 false y9.2.1 y9.2.2.1).bind fun y11=>
 (Df.k (Dop.Ae.mk 0 y2.1.1 1 y4.1.1.n false) y11.1.1 y11.2.1 y11.2.2.1).bind fun y12=>
 (Bp.k 30 y12.1.1 ((-1)) ((-1)) ((-1)) 0 [] y12.2.1 y12.2.2.1).bind A7)<|
 ci (y4.1.1.kind=3) ((Ff.k y4.1.1 y4.2.1 y6.2.1).bind fun y10=>
 (BN.k A1 y2.1.1 t2 false y10.2.1 y10.2.2.1).bind fun y11=>
 (Df.k (Dop.Ae.mk 0 y2.1.1 2 y10.1.1 false) y11.1.1 y11.2.1 y11.2.2.1).bind fun y12=>
 (Bp.k 30 y12.1.1 ((-1)) ((-1)) ((-1)) 0 [] y12.2.1 y12.2.2.1).bind A7)<|
 (BN.k A1 y2.1.1 t2 false y4.2.1 y6.2.1).bind fun y10=>
 (Df.k (Dop.Ae.mk 0 y2.1.1 1 y4.1.1.n false) y10.1.1 y10.2.1 y10.2.2.1).bind fun y11=>
 (Bp.k 30 y11.1.1 ((-1)) ((-1)) ((-1)) 0 [] y11.2.1 y11.2.2.1).bind A7
def Ms.Kc:=kd 173 Ms.p fun x=>Ms.k x.1.2.1 x.1.2.2.1 x.2.1 x.2.2.1
theorem Ms.Kh:Ms.Kc.Holds prog:=kh AH (hc C9.Kh (hc CZ.IL (hc IG.Kh (hc DY.Kh (hc Ag.Kh (hc Bp.Kh (hc Em.Kh (hc Ff.Kh (hc BN.Kh (hc Df.Kh hn)))))))))) Ms.ok (by kernel_rfl)
abbrev Bf.kr (r:Cs.T) (t1:Int) (k0:CK) (k1:CT):R2 Int CK CT:=r.1 (((),t1,()),(k0,k1,()))
abbrev Is.kr (r:Cs.T) (n:Int) (k0:CK) (k1:CT):R2 Int CK CT:=r.2.1 (((),n,()),(k0,k1,()))
abbrev K5.kr (r:Cs.T) (x:Dop.AR) (n:Int) (k0:CK) (k1:CT):R2 Int CK CT:=r.2.2.1 (((),x,n,()),(k0,k1,()))
abbrev Dx.kr (r:Cs.T) (k1:CK) (k2:CT) (b3:Dop.AR):Option ((Int×Unit)×((Unit×Unit)×CK×CT×(Dop.AR×Unit)×Unit)):=r.2.2.2.1 (((),(),()),(((),()),k1,k2,(b3,()),()))
abbrev LW.T:Type:=Int->CK->CT->Dop.AR->R2 Int CK CT
abbrev LX.T:Type:=Int->Int->CK->CT->Dop.AR->R2 Int CK CT
abbrev Bf.KT:Type:=LW.T×LX.T×Unit
def LW.kB (rK:Cs.T) (tK:Bf.KT):LW.T:=fun t1 k0 k1 b3=>
 let A1:=Bp.k b3.kind ((-1)) ((-1)) ((-1)) ((-1)) 0 [] k0 k1
 let z1:R2 Int CK CT:=
 A1.bind A7
 ci (b3.kind=35) (ci (k0.Gh=0) ((Ag.k 9 t1 k0 k1).bind fun y4=>
 AV y4.1.1.n y4.2.1 y4.2.2.1)<|
 ci (b3.kind=36) (ci (k0.loops=0) ((Ag.k 9 t1 k0 k1).bind fun y6=>
 AV y6.1.1.n y6.2.1 y6.2.2.1)<|
 A1.bind A7)<|
 z1)<|
 ci (b3.kind=36) (ci (k0.loops=0) ((Ag.k 9 t1 k0 k1).bind fun y5=>
 AV y5.1.1.n y5.2.1 y5.2.2.1)<|
 z1)<|
 A1.bind A7
def LX.kB (rK:Cs.T) (tK:Bf.KT):LX.T:=fun t1 t27 k0 k1 b3=>
 let A2:=(K5.kr rK b3 t1 k0 k1).bind A7
 let A1:=BO k0.labels b3.text ((AL k0.labels b3.text).getD (0:Int)+1)
 let z1:R2 Int CK CT:=
 ci (t27=43) (ck (room 8 (k0.names.length+1))<|
 (Dx.kr rK ((CK.B8 k0 (k0.names++([]:List (List UInt8×Dop.B6))::[]))) k1 b3).bind fun y9=>
 ck (Ap (I (CK.names y9.2.2.1).length -1))<|
 ck (0<=I (CK.names y9.2.2.1).length -1/\I (CK.names y9.2.2.1).length -1<=I (CK.names y9.2.2.1).length)<|
 AV y9.1.1 (CK.B8 y9.2.2.1 (List.take (I (CK.names y9.2.2.1).length -1).toNat (CK.names y9.2.2.1))) y9.2.2.2.1)<|
 ci (t27=45) ((Ms.k b3 t1 k0 k1).bind A7)<|
 (Bp.k 44 ((-1)) ((-1)) ((-1)) ((-1)) 0 [] k0 k1).bind A7
 ci (t27=37) ((Mr.k b3 t1 k0 k1).bind A7)<|
 ci (t27=38) (ci (!(AL k0.gotos b3.text).isSome) ((Bp.k 38 ((-1)) ((-1)) ((-1)) ((-1)) 0 b3.text ((CK.Zq k0 (BO k0.gotos b3.text t1))) k1).bind A7)<|
 (Bp.k 38 ((-1)) ((-1)) ((-1)) ((-1)) 0 b3.text k0 k1).bind A7)<|
 ci (t27=39) (ck (Ap ((AL k0.labels b3.text).getD (0:Int)+1))<|
 ci (1<(AL A1 b3.text).getD 0) ((Ag.k 9 t1 ((CK.RF k0 A1)) k1).bind fun y6=>
 AV y6.1.1.n y6.2.1 y6.2.2.1)<|
 (Bf.kr rK b3.a ((CK.RF k0 A1)) k1).bind fun y6=>
 (Bp.k 39 y6.1.1 ((-1)) ((-1)) ((-1)) 0 b3.text y6.2.1 y6.2.2.1).bind A7)<|
 ci (t27=40) ((CZ.k b3.a k0 k1).bind fun y6=>
 ck (room 8 ((CK.BE y6.2.1).length+1))<|
 ck (Ap (CK.Gh y6.2.1+1))<|
 (Bf.kr rK b3.b ((CK.K0 (CK.HC y6.2.1 (CK.BE y6.2.1++([]:List (Int×Int))::[])) (CK.Gh y6.2.1+1))) y6.2.2.1).bind fun y7=>
 ck (Ap (CK.Gh y7.2.1 -1))<|
 ck (Ap (I (CK.BE y7.2.1).length -1))<|
 ck (0<=I (CK.BE y7.2.1).length -1/\I (CK.BE y7.2.1).length -1<=I (CK.BE y7.2.1).length)<|
 (Bp.k 40 y6.1.1.n y7.1.1 ((-1)) ((-1)) 0 [] ((CK.K0 (CK.HC y7.2.1 (List.take (I (CK.BE y7.2.1).length -1).toNat (CK.BE y7.2.1))) (CK.Gh y7.2.1 -1))) y7.2.2.1).bind A7)<|
 ci (t27=41) (ci (t27=41) A2<|
 z1)<|
 ci (t27=42) A2<|
 z1
def Bf.kS (rK:Cs.T) (tK:Bf.KT):Bf.KT:=(LW.kB rK tK,LX.kB rK tK,())
def Bf.kL (rK:Cs.T) (n:Nat):Bf.KT:=Cv (Bf.kS rK) n
def Bf.k0 (rK:Cs.T) (tK:Bf.KT) (t1:Int) (k0:CK) (k1:CT):R2 Int CK CT:=
 (Nj.k t1 k0 k1).bind fun y2=>
 ci (!(CK.e y2.2.1=0)) (AV (-1) y2.2.1 y2.2.2.1)<|
 ci (y2.1.1.kind=30) ((Jc.k y2.1.1.a y2.2.1 y2.2.2.1).bind fun y5=>
 (Bp.k 30 y5.1.1 ((-1)) ((-1)) ((-1)) 0 [] y5.2.1 y5.2.2.1).bind A7)<|
 ci (y2.1.1.kind=31) ((CZ.k y2.1.1.a y2.2.1 y2.2.2.1).bind fun y6=>
 (Bf.kr rK y2.1.1.b y6.2.1 y6.2.2.1).bind fun y7=>
 ci (0<=y2.1.1.c) ((Bf.kr rK y2.1.1.c y7.2.1 y7.2.2.1).bind fun y9=>
 (Bp.k 31 y6.1.1.n y7.1.1 y9.1.1 ((-1)) 0 [] y9.2.1 y9.2.2.1).bind A7)<|
 (Bp.k 31 y6.1.1.n y7.1.1 ((-1)) ((-1)) 0 [] y7.2.1 y7.2.2.1).bind A7)<|
 ci (y2.1.1.kind=32) ((CZ.k y2.1.1.a y2.2.1 y2.2.2.1).bind fun y7=>
 (Is.kr rK y2.1.1.b y7.2.1 y7.2.2.1).bind fun y8=>
 (Bp.k 32 y7.1.1.n y8.1.1 ((-1)) ((-1)) 0 [] y8.2.1 y8.2.2.1).bind A7)<|
 ci (y2.1.1.kind=33) ((Is.kr rK y2.1.1.b y2.2.1 y2.2.2.1).bind fun y8=>
 (CZ.k y2.1.1.a y8.2.1 y8.2.2.1).bind fun y9=>
 (Bp.k 33 y9.1.1.n y8.1.1 ((-1)) ((-1)) 0 [] y9.2.1 y9.2.2.1).bind A7)<|
 ci (y2.1.1.kind=34) ((Jc.k y2.1.1.a y2.2.1 y2.2.2.1).bind fun y9=>
 ci (0<=y2.1.1.b) ((CZ.k y2.1.1.b y9.2.1 y9.2.2.1).bind fun y11=>
 (Jc.k y2.1.1.c y11.2.1 y11.2.2.1).bind fun y12=>
 (Is.kr rK y2.1.1.d y12.2.1 y12.2.2.1).bind fun y13=>
 (Bp.k 34 y9.1.1 y11.1.1.n y12.1.1 y13.1.1 0 [] y13.2.1 y13.2.2.1).bind A7)<|
 (Jc.k y2.1.1.c y9.2.1 y9.2.2.1).bind fun y11=>
 (Is.kr rK y2.1.1.d y11.2.1 y11.2.2.1).bind fun y12=>
 (Bp.k 34 y9.1.1 ((-1)) y11.1.1 y12.1.1 0 [] y12.2.1 y12.2.2.1).bind A7)<|
 ci (y2.1.1.kind=35) (ci (y2.1.1.kind=35) (tK.1 t1 y2.2.1 y2.2.2.1 y2.1.1)<|
 tK.2.1 t1 y2.1.1.kind y2.2.1 y2.2.2.1 y2.1.1)<|
 ci (y2.1.1.kind=36) (tK.1 t1 y2.2.1 y2.2.2.1 y2.1.1)<|
 tK.2.1 t1 y2.1.1.kind y2.2.1 y2.2.2.1 y2.1.1
def Bf.kf (rK:Cs.T) (t1:Int) (k0:CK) (k1:CT):R2 Int CK CT:=Bf.k0 rK (Bf.kL rK 1000000) t1 k0 k1
def Is.kf (rK:Cs.T) (n:Int) (k0:CK) (k1:CT):R2 Int CK CT:=
 ck (Ap (k0.loops+1))<|
 ck (Ap (k0.Gh+1))<|
 (Bf.kr rK n ((CK.K0 (CK.ID k0 (k0.loops+1)) (k0.Gh+1))) k1).bind fun y2=>
 ck (Ap (CK.loops y2.2.1 -1))<|
 ck (Ap (CK.Gh y2.2.1 -1))<|
 AV y2.1.1 (CK.K0 (CK.ID y2.2.1 (CK.loops y2.2.1 -1)) (CK.Gh y2.2.1 -1)) y2.2.2.1
def K5.kf (rK:Cs.T) (x:Dop.AR) (n:Int) (k0:CK) (k1:CT):R2 Int CK CT:=
 let A1:=Ap (I k0.BE.length -1)
 ci (x.kind=41) ((Ea.k x.n).bind fun y3=>
 ci (I k0.BE.length=0) ((Ag.k 9 n k0 k1).bind fun y5=>
 AV y5.1.1.n y5.2.1 y5.2.2.1)<|
 ck A1<|
 ck (0<=I k0.BE.length -1/\I k0.BE.length -1<I k0.BE.length)<|
 ck ((I k0.BE.length -1).toNat<k0.BE.length)<|
 ck ((I k0.BE.length -1).toNat<k0.BE.length)<|
 ck (Ap ((DP (List.getD k0.BE (I k0.BE.length -1).toNat (([]:List (Int×Int)))) y3.1.1).getD (0:Int)+1))<|
 ck ((I k0.BE.length -1).toNat<k0.BE.length)<|
 ck ((I k0.BE.length -1).toNat<(k0.BE.set (I k0.BE.length -1).toNat (Dn (List.getD k0.BE (I k0.BE.length -1).toNat (([]:List (Int×Int)))) y3.1.1 ((DP (List.getD k0.BE (I k0.BE.length -1).toNat (([]:List (Int×Int)))) y3.1.1).getD (0:Int)+1))).length)<|
 ci (1<(DP ((k0.BE.set (I k0.BE.length -1).toNat (Dn (List.getD k0.BE (I k0.BE.length -1).toNat (([]:List (Int×Int)))) y3.1.1 ((DP (List.getD k0.BE (I k0.BE.length -1).toNat (([]:List (Int×Int)))) y3.1.1).getD (0:Int)+1))).getD (I k0.BE.length -1).toNat (([]:List (Int×Int)))) y3.1.1).getD 0) ((Ag.k 9 n ((CK.HC k0 (k0.BE.set (I k0.BE.length -1).toNat (Dn (List.getD k0.BE (I k0.BE.length -1).toNat (([]:List (Int×Int)))) y3.1.1 ((DP (List.getD k0.BE (I k0.BE.length -1).toNat (([]:List (Int×Int)))) y3.1.1).getD (0:Int)+1))))) k1).bind fun y6=>
 AV y6.1.1.n y6.2.1 y6.2.2.1)<|
 ci (x.kind=42) ((Bf.kr rK x.a ((CK.HC k0 (k0.BE.set (I k0.BE.length -1).toNat (Dn (List.getD k0.BE (I k0.BE.length -1).toNat (([]:List (Int×Int)))) y3.1.1 ((DP (List.getD k0.BE (I k0.BE.length -1).toNat (([]:List (Int×Int)))) y3.1.1).getD (0:Int)+1))))) k1).bind fun y7=>
 (Bp.k x.kind y7.1.1 ((-1)) ((-1)) ((-1)) 0 [] y7.2.1 y7.2.2.1).bind A7)<|
 (Bf.kr rK x.a ((CK.HC k0 (k0.BE.set (I k0.BE.length -1).toNat (Dn (List.getD k0.BE (I k0.BE.length -1).toNat (([]:List (Int×Int)))) y3.1.1 ((DP (List.getD k0.BE (I k0.BE.length -1).toNat (([]:List (Int×Int)))) y3.1.1).getD (0:Int)+1))))) k1).bind fun y7=>
 (Bp.k x.kind y7.1.1 ((-1)) ((-1)) ((-1)) y3.1.1 [] y7.2.1 y7.2.2.1).bind A7)<|
 ci (I k0.BE.length=0) ((Ag.k 9 n k0 k1).bind fun y4=>
 AV y4.1.1.n y4.2.1 y4.2.2.1)<|
 ck A1<|
 ck (0<=I k0.BE.length -1/\I k0.BE.length -1<I k0.BE.length)<|
 ck ((I k0.BE.length -1).toNat<k0.BE.length)<|
 ck ((I k0.BE.length -1).toNat<k0.BE.length)<|
 ck (Ap ((DP (List.getD k0.BE (I k0.BE.length -1).toNat (([]:List (Int×Int)))) 1099511627776).getD (0:Int)+1))<|
 ck ((I k0.BE.length -1).toNat<k0.BE.length)<|
 ck ((I k0.BE.length -1).toNat<(k0.BE.set (I k0.BE.length -1).toNat (Dn (List.getD k0.BE (I k0.BE.length -1).toNat (([]:List (Int×Int)))) 1099511627776 ((DP (List.getD k0.BE (I k0.BE.length -1).toNat (([]:List (Int×Int)))) 1099511627776).getD (0:Int)+1))).length)<|
 ci (1<(DP ((k0.BE.set (I k0.BE.length -1).toNat (Dn (List.getD k0.BE (I k0.BE.length -1).toNat (([]:List (Int×Int)))) 1099511627776 ((DP (List.getD k0.BE (I k0.BE.length -1).toNat (([]:List (Int×Int)))) 1099511627776).getD (0:Int)+1))).getD (I k0.BE.length -1).toNat (([]:List (Int×Int)))) 1099511627776).getD 0) ((Ag.k 9 n ((CK.HC k0 (k0.BE.set (I k0.BE.length -1).toNat (Dn (List.getD k0.BE (I k0.BE.length -1).toNat (([]:List (Int×Int)))) 1099511627776 ((DP (List.getD k0.BE (I k0.BE.length -1).toNat (([]:List (Int×Int)))) 1099511627776).getD (0:Int)+1))))) k1).bind fun y5=>
 AV y5.1.1.n y5.2.1 y5.2.2.1)<|
 ci (x.kind=42) ((Bf.kr rK x.a ((CK.HC k0 (k0.BE.set (I k0.BE.length -1).toNat (Dn (List.getD k0.BE (I k0.BE.length -1).toNat (([]:List (Int×Int)))) 1099511627776 ((DP (List.getD k0.BE (I k0.BE.length -1).toNat (([]:List (Int×Int)))) 1099511627776).getD (0:Int)+1))))) k1).bind fun y6=>
 (Bp.k x.kind y6.1.1 ((-1)) ((-1)) ((-1)) 0 [] y6.2.1 y6.2.2.1).bind A7)<|
 (Bf.kr rK x.a ((CK.HC k0 (k0.BE.set (I k0.BE.length -1).toNat (Dn (List.getD k0.BE (I k0.BE.length -1).toNat (([]:List (Int×Int)))) 1099511627776 ((DP (List.getD k0.BE (I k0.BE.length -1).toNat (([]:List (Int×Int)))) 1099511627776).getD (0:Int)+1))))) k1).bind fun y6=>
 (Bp.k x.kind y6.1.1 ((-1)) ((-1)) ((-1)) 1099511627776 [] y6.2.1 y6.2.2.1).bind A7
abbrev PN.T:Type:=List Int->List Int->Int->Int->CK->CT->Dop.AR->Option ((Int×Unit)×((Unit×Unit)×CK×CT×(Dop.AR×Unit)×Unit))
abbrev Dx.KT:Type:=PN.T×Unit
def PN.kB (rK:Cs.T) (tK:Dx.KT):PN.T:=fun l t12 t13 t14 k1 k2 b3=>
 ci (t14<t13) (ck (0<=t14/\t14<I t12.length)<|
 ck (t14.toNat<t12.length)<|
 (Bf.kr rK (List.getD t12 t14.toNat 0) k1 k2).bind fun y3=>
 ck (Cc none (room 8 (l.length+(y3.1.1::[]).length)))<|
 ck (Ap (t14+1))<|
 tK.1 (l++y3.1.1::[]) t12 t13 (t14+1) y3.2.1 y3.2.2.1 b3)<|
 (Ab.k l k1 k2).bind fun y3=>
 (Bp.k 43 y3.1.1 ((-1)) ((-1)) ((-1)) 0 [] y3.2.1 y3.2.2.1).bind fun y4=>
 some ((y4.1.1,()),(((),()),(y4.2.1,(y4.2.2.1,((b3,()),())))))
def Dx.kS (rK:Cs.T) (tK:Dx.KT):Dx.KT:=(PN.kB rK tK,())
def Dx.kL (rK:Cs.T) (n:Nat):Dx.KT:=Cv (Dx.kS rK) n
def Dx.k0 (rK:Cs.T) (tK:Dx.KT) (k1:CK) (k2:CT) (b3:Dop.AR):Option ((Int×Unit)×((Unit×Unit)×CK×CT×(Dop.AR×Unit)×Unit)):=
 (Ga.k k1.t b3.a).bind fun y2=>
 tK.1 [] y2.1.1 (I y2.1.1.length) 0 k1 k2 b3
def Dx.kf (rK:Cs.T) (k1:CK) (k2:CT) (b3:Dop.AR):Option ((Int×Unit)×((Unit×Unit)×CK×CT×(Dop.AR×Unit)×Unit)):=Dx.k0 rK (Dx.kL rK 1000000) k1 k2 b3
def Cs.kS (r:Cs.T):Cs.T:=(fun x=>Bf.kf r x.1.2.1 x.2.1 x.2.2.1,fun x=>Is.kf r x.1.2.1 x.2.1 x.2.2.1,fun x=>K5.kf r x.1.2.1 x.1.2.2.1 x.2.1 x.2.2.1,fun x=>Dx.kf r x.2.2.1 x.2.2.2.1 x.2.2.2.2.1.1,())
def Cs.kR (n:Nat):Cs.T:=Cv Cs.kS n
def Bf.Kc (n:Nat):=kd 135 Bf.p (Cs.kR n).1
def Bf.Od:=Bf.Kc FU
def Bf.k:=Bf.kr (Cs.kR FU)
def Is.Kc (n:Nat):=kd 168 Is.p (Cs.kR n).2.1
def K5.Kc (n:Nat):=kd 170 K5.p (Cs.kR n).2.2.1
def Dx.Kc (n:Nat):=kd 172 Dx.p (Cs.kR n).2.2.2.1
def Cs.Re (n:Nat):List (CC Dop.D4):=[Bf.Kc n,Is.Kc n,K5.Kc n,Dx.Kc n]
theorem Cs.E0: ∀ n,(Bf.Kc n).Holds prog/\(Is.Kc n).Holds prog/\(K5.Kc n).Holds prog/\(Dx.Kc n).Holds prog/\True
 | 0=>⟨AN AH Bf.ok,AN AH Is.ok,AN AH K5.ok,AN AH Dx.ok,trivial⟩
 | n+1=>by
  obtain ⟨h0,h1,h2,h3,_⟩:=Cs.E0 n
  have hh: ∀ c∈Cs.Re n,c.Holds prog:=(hc h0 (hc h1 (hc h2 (hc h3 hn))))
  exact ⟨E7 AH (Ac hh (hc Nj.Kh (hc Jc.Kh (hc Bp.Kh (hc CZ.IL (hc Ag.Kh (hc Mr.Kh (hc Ms.Kh hn)))))))) Bf.ok (fun t x=>Bf.k0 (Cs.kR n) t x.1.2.1 x.2.1 x.2.2.1) (fun c=>(fun t1 k0 k1 b3=>c 27 Bf.kU rfl ((t1,(),(),()),(k0,k1,((),()),(b3,()),())),fun t1 t27 k0 k1 b3=>c 30 Bf.kW rfl ((t1,(),(),t27,()),(k0,k1,((),()),(b3,()),())),())) (Bf.kS (Cs.kR n)) (by kernel_rfl),
   kh AH (Ac hh hn) Is.ok (by kernel_rfl),
   kh AH (Ac hh (hc Ea.Kh (hc Ag.Kh (hc Bp.Kh hn)))) K5.ok (by kernel_rfl),
   E7 AH (Ac hh (hc Ga.Kh (hc Ab.Kh (hc Bp.Kh hn)))) Dx.ok (fun t x=>Dx.k0 (Cs.kR n) t x.2.2.1 x.2.2.2.1 x.2.2.2.2.1.1) (fun c=>(fun l t12 t13 t14 k1 k2 b3=>c 3 Dx.q3 rfl (((),l,t12,t13,t14,()),(((),()),k1,k2,(b3,()),())),())) (Dx.kS (Cs.kR n)) (by kernel_rfl),
   trivial⟩
theorem Bf.IL:Bf.Od.Holds prog:=(Cs.E0 FU).1
end
end Go.Proofs.Tryz
