/-
 Functions in plain words (what their equations say), and their contracts. Written by a program.
-/
import Derived.Test.YtkpggdcpaeanaaaGreatDoorTwL
import Derived.Test.YtkpggdcpaeanaaaGreatDoorMo
set_option maxRecDepth 100000
set_option maxHeartbeats 4000000
namespace Go.Proofs.Tryz
open Go Go.En
noncomputable section
def Hi.k (t1:List UInt8) (t2 t3:Int) (t4:Bool) (k0:CK) (k1:CT):c6 Dop.B3 Bool CK CT:=
 let A4:=Av (k0.f.BH+(1:Int) -1)
 let A3:=Dop.Db.mk k0.f.name k0.f.params (k0.f.BH+1) k0.f.frame k0.f.body
 let A2:=Dop.B3.mk 2 (k0.f.BH+(1:Int) -1) t2
 let A1:=Dop.B3.mk 3 k0.f.frame t2
 (BW.k t2 k1).bind fun y2=>
 ck (Av (I k0.names.length -1))<|
 ck (0≤I k0.names.length -1∧I k0.names.length -1<I k0.names.length)<|
 ck ((I k0.names.length -1).toNat<k0.names.length)<|
 ck ((I k0.names.length -1).toNat<k0.names.length)<|
 ci ((AL (List.getD k0.names (I k0.names.length -1).toNat (([]:List (List UInt8×Dop.B3)))) t1).isSome) (ci (k0.e=0) ((GQ.k t3 k0.t k0.num k0.funcs k0.globals k0.top k0.nodes k0.sigs k0.taken k0.f k0.BO k0.labels k0.gotos k0.loops k0.A8 k0.GA k0.e k0.when y2.2.1 k0.names).bind fun y5=>
 Mf (Dop.B3.mk 0 0 0) false (Dop.FV.mk y5.2.1.1 y5.2.1.2.1 y5.2.1.2.2.1,(),y5.2.1.2.2.2.2.1,y5.2.1.2.2.2.2.2.1,y5.2.1.2.2.2.2.2.2.1,y5.2.1.2.2.2.2.2.2.2.1,y5.2.1.2.2.2.2.2.2.2.2.1,y5.2.2.2.1.1,y5.2.1.2.2.2.2.2.2.2.2.2.2.1,y5.2.1.2.2.2.2.2.2.2.2.2.2.2.1,Dop.Db.mk y5.2.1.2.2.2.2.2.2.2.2.2.2.2.2.1 y5.2.1.2.2.2.2.2.2.2.2.2.2.2.2.2.1 y5.2.1.2.2.2.2.2.2.2.2.2.2.2.2.2.2.1 y5.2.1.2.2.2.2.2.2.2.2.2.2.2.2.2.2.2.1 y5.2.1.2.2.2.2.2.2.2.2.2.2.2.2.2.2.2.2.1,y5.2.1.2.2.2.2.2.2.2.2.2.2.2.2.2.2.2.2.2.1,y5.2.1.2.2.2.2.2.2.2.2.2.2.2.2.2.2.2.2.2.2.1,y5.2.1.2.2.2.2.2.2.2.2.2.2.2.2.2.2.2.2.2.2.2.1,y5.2.1.2.2.2.2.2.2.2.2.2.2.2.2.2.2.2.2.2.2.2.2.1,y5.2.1.2.2.2.2.2.2.2.2.2.2.2.2.2.2.2.2.2.2.2.2.2.1,y5.2.1.2.2.2.2.2.2.2.2.2.2.2.2.2.2.2.2.2.2.2.2.2.2.1,7,y5.1.1.at_,()) y5.2.2.1)<|
 Mf (Dop.B3.mk 0 0 0) false k0 y2.2.1)<|
 ci (!y2.1.2.1) (ci (k0.e=0) ((GQ.k t3 k0.t k0.num k0.funcs k0.globals k0.top k0.nodes k0.sigs k0.taken k0.f k0.BO k0.labels k0.gotos k0.loops k0.A8 k0.GA k0.e k0.when y2.2.1 k0.names).bind fun y6=>
 Mf (Dop.B3.mk 0 0 0) false (Dop.FV.mk y6.2.1.1 y6.2.1.2.1 y6.2.1.2.2.1,(),y6.2.1.2.2.2.2.1,y6.2.1.2.2.2.2.2.1,y6.2.1.2.2.2.2.2.2.1,y6.2.1.2.2.2.2.2.2.2.1,y6.2.1.2.2.2.2.2.2.2.2.1,y6.2.2.2.1.1,y6.2.1.2.2.2.2.2.2.2.2.2.2.1,y6.2.1.2.2.2.2.2.2.2.2.2.2.2.1,Dop.Db.mk y6.2.1.2.2.2.2.2.2.2.2.2.2.2.2.1 y6.2.1.2.2.2.2.2.2.2.2.2.2.2.2.2.1 y6.2.1.2.2.2.2.2.2.2.2.2.2.2.2.2.2.1 y6.2.1.2.2.2.2.2.2.2.2.2.2.2.2.2.2.2.1 y6.2.1.2.2.2.2.2.2.2.2.2.2.2.2.2.2.2.2.1,y6.2.1.2.2.2.2.2.2.2.2.2.2.2.2.2.2.2.2.2.1,y6.2.1.2.2.2.2.2.2.2.2.2.2.2.2.2.2.2.2.2.2.1,y6.2.1.2.2.2.2.2.2.2.2.2.2.2.2.2.2.2.2.2.2.2.1,y6.2.1.2.2.2.2.2.2.2.2.2.2.2.2.2.2.2.2.2.2.2.2.1,y6.2.1.2.2.2.2.2.2.2.2.2.2.2.2.2.2.2.2.2.2.2.2.2.1,y6.2.1.2.2.2.2.2.2.2.2.2.2.2.2.2.2.2.2.2.2.2.2.2.2.1,8,y6.1.1.at_,()) y6.2.2.1)<|
 Mf (Dop.B3.mk 0 0 0) false k0 y2.2.1)<|
 ci t4 ((DL.k t2 y2.2.1).bind fun y6=>
 ci (!y6.1.1) (ci (k0.e=0) ((GQ.k t3 k0.t k0.num k0.funcs k0.globals k0.top k0.nodes k0.sigs k0.taken k0.f k0.BO k0.labels k0.gotos k0.loops k0.A8 k0.GA k0.e k0.when y6.2.1 k0.names).bind fun y9=>
 Mf (Dop.B3.mk 0 0 0) false (Dop.FV.mk y9.2.1.1 y9.2.1.2.1 y9.2.1.2.2.1,(),y9.2.1.2.2.2.2.1,y9.2.1.2.2.2.2.2.1,y9.2.1.2.2.2.2.2.2.1,y9.2.1.2.2.2.2.2.2.2.1,y9.2.1.2.2.2.2.2.2.2.2.1,y9.2.2.2.1.1,y9.2.1.2.2.2.2.2.2.2.2.2.2.1,y9.2.1.2.2.2.2.2.2.2.2.2.2.2.1,Dop.Db.mk y9.2.1.2.2.2.2.2.2.2.2.2.2.2.2.1 y9.2.1.2.2.2.2.2.2.2.2.2.2.2.2.2.1 y9.2.1.2.2.2.2.2.2.2.2.2.2.2.2.2.2.1 y9.2.1.2.2.2.2.2.2.2.2.2.2.2.2.2.2.2.1 y9.2.1.2.2.2.2.2.2.2.2.2.2.2.2.2.2.2.2.1,y9.2.1.2.2.2.2.2.2.2.2.2.2.2.2.2.2.2.2.2.1,y9.2.1.2.2.2.2.2.2.2.2.2.2.2.2.2.2.2.2.2.2.1,y9.2.1.2.2.2.2.2.2.2.2.2.2.2.2.2.2.2.2.2.2.2.1,y9.2.1.2.2.2.2.2.2.2.2.2.2.2.2.2.2.2.2.2.2.2.2.1,y9.2.1.2.2.2.2.2.2.2.2.2.2.2.2.2.2.2.2.2.2.2.2.2.1,y9.2.1.2.2.2.2.2.2.2.2.2.2.2.2.2.2.2.2.2.2.2.2.2.2.1,8,y9.1.1.at_,()) y9.2.2.1)<|
 Mf (Dop.B3.mk 0 0 0) false k0 y6.2.1)<|
 (DL.k t2 y6.2.1).bind fun y8=>
 let z1:c6 Dop.B3 Bool CK CT:=
 ck ((I k0.names.length -1).toNat<k0.names.length)<|
 Mf A1 (decide (k0.e=0)) (CK.Ws (CK.B5 k0 (k0.names.set (I k0.names.length -1).toNat (BF (List.getD k0.names (I k0.names.length -1).toNat (([]:List (List UInt8×Dop.B3)))) t1 A1))) (Dop.Db.mk k0.f.name k0.f.params k0.f.BH (k0.f.frame+y2.1.1) k0.f.body)) y8.2.1
 ci y8.1.1 (ci ((AL k0.taken t1).getD (0:Int)=0) (ci (k0.f.BH=4096) (ci (k0.e=0) ((GQ.k t3 k0.t k0.num k0.funcs k0.globals k0.top k0.nodes k0.sigs k0.taken k0.f k0.BO k0.labels k0.gotos k0.loops k0.A8 k0.GA k0.e k0.when y8.2.1 k0.names).bind fun y13=>
 ck ((I k0.names.length -1).toNat<y13.2.2.2.1.1.length)<|
 Mf (Dop.B3.mk 2 0 t2) (decide ((4:Int)=0)) (Dop.FV.mk y13.2.1.1 y13.2.1.2.1 y13.2.1.2.2.1,(),y13.2.1.2.2.2.2.1,y13.2.1.2.2.2.2.2.1,y13.2.1.2.2.2.2.2.2.1,y13.2.1.2.2.2.2.2.2.2.1,y13.2.1.2.2.2.2.2.2.2.2.1,y13.2.2.2.1.1.set (I k0.names.length -1).toNat (BF (List.getD y13.2.2.2.1.1 (I k0.names.length -1).toNat (([]:List (List UInt8×Dop.B3)))) t1 (Dop.B3.mk 2 0 t2)),y13.2.1.2.2.2.2.2.2.2.2.2.2.1,y13.2.1.2.2.2.2.2.2.2.2.2.2.2.1,Dop.Db.mk y13.2.1.2.2.2.2.2.2.2.2.2.2.2.2.1 y13.2.1.2.2.2.2.2.2.2.2.2.2.2.2.2.1 y13.2.1.2.2.2.2.2.2.2.2.2.2.2.2.2.2.1 y13.2.1.2.2.2.2.2.2.2.2.2.2.2.2.2.2.2.1 y13.2.1.2.2.2.2.2.2.2.2.2.2.2.2.2.2.2.2.1,y13.2.1.2.2.2.2.2.2.2.2.2.2.2.2.2.2.2.2.2.1,y13.2.1.2.2.2.2.2.2.2.2.2.2.2.2.2.2.2.2.2.2.1,y13.2.1.2.2.2.2.2.2.2.2.2.2.2.2.2.2.2.2.2.2.2.1,y13.2.1.2.2.2.2.2.2.2.2.2.2.2.2.2.2.2.2.2.2.2.2.1,y13.2.1.2.2.2.2.2.2.2.2.2.2.2.2.2.2.2.2.2.2.2.2.2.1,y13.2.1.2.2.2.2.2.2.2.2.2.2.2.2.2.2.2.2.2.2.2.2.2.2.1,4,y13.1.1.at_,()) y13.2.2.1)<|
 ck ((I k0.names.length -1).toNat<k0.names.length)<|
 Mf (Dop.B3.mk 2 0 t2) (decide (k0.e=0)) (CK.B5 k0 (k0.names.set (I k0.names.length -1).toNat (BF (List.getD k0.names (I k0.names.length -1).toNat (([]:List (List UInt8×Dop.B3)))) t1 (Dop.B3.mk 2 0 t2)))) y8.2.1)<|
 ck (Av (k0.f.BH+1))<|
 ck A4<|
 ck ((I k0.names.length -1).toNat<k0.names.length)<|
 Mf A2 (decide (k0.e=0)) (CK.Ws (CK.B5 k0 (k0.names.set (I k0.names.length -1).toNat (BF (List.getD k0.names (I k0.names.length -1).toNat (([]:List (List UInt8×Dop.B3)))) t1 A2))) A3) y8.2.1)<|
 ck (Av (k0.f.frame+y2.1.1))<|
 ci (4096<k0.f.frame+y2.1.1) (ci (k0.e=0) ((GQ.k t3 k0.t k0.num k0.funcs k0.globals k0.top k0.nodes k0.sigs k0.taken (Dop.Db.mk k0.f.name k0.f.params k0.f.BH (k0.f.frame+y2.1.1) k0.f.body) k0.BO k0.labels k0.gotos k0.loops k0.A8 k0.GA k0.e k0.when y8.2.1 k0.names).bind fun y13=>
 ck ((I k0.names.length -1).toNat<y13.2.2.2.1.1.length)<|
 Mf A1 (decide ((4:Int)=0)) (Dop.FV.mk y13.2.1.1 y13.2.1.2.1 y13.2.1.2.2.1,(),y13.2.1.2.2.2.2.1,y13.2.1.2.2.2.2.2.1,y13.2.1.2.2.2.2.2.2.1,y13.2.1.2.2.2.2.2.2.2.1,y13.2.1.2.2.2.2.2.2.2.2.1,y13.2.2.2.1.1.set (I k0.names.length -1).toNat (BF (List.getD y13.2.2.2.1.1 (I k0.names.length -1).toNat (([]:List (List UInt8×Dop.B3)))) t1 A1),y13.2.1.2.2.2.2.2.2.2.2.2.2.1,y13.2.1.2.2.2.2.2.2.2.2.2.2.2.1,Dop.Db.mk y13.2.1.2.2.2.2.2.2.2.2.2.2.2.2.1 y13.2.1.2.2.2.2.2.2.2.2.2.2.2.2.2.1 y13.2.1.2.2.2.2.2.2.2.2.2.2.2.2.2.2.1 y13.2.1.2.2.2.2.2.2.2.2.2.2.2.2.2.2.2.1 y13.2.1.2.2.2.2.2.2.2.2.2.2.2.2.2.2.2.2.1,y13.2.1.2.2.2.2.2.2.2.2.2.2.2.2.2.2.2.2.2.1,y13.2.1.2.2.2.2.2.2.2.2.2.2.2.2.2.2.2.2.2.2.1,y13.2.1.2.2.2.2.2.2.2.2.2.2.2.2.2.2.2.2.2.2.2.1,y13.2.1.2.2.2.2.2.2.2.2.2.2.2.2.2.2.2.2.2.2.2.2.1,y13.2.1.2.2.2.2.2.2.2.2.2.2.2.2.2.2.2.2.2.2.2.2.2.1,y13.2.1.2.2.2.2.2.2.2.2.2.2.2.2.2.2.2.2.2.2.2.2.2.2.1,4,y13.1.1.at_,()) y13.2.2.1)<|
 z1)<|
 z1)<|
 ck (Av (k0.f.frame+y2.1.1))<|
 ci (4096<k0.f.frame+y2.1.1) (ci (k0.e=0) ((GQ.k t3 k0.t k0.num k0.funcs k0.globals k0.top k0.nodes k0.sigs k0.taken (Dop.Db.mk k0.f.name k0.f.params k0.f.BH (k0.f.frame+y2.1.1) k0.f.body) k0.BO k0.labels k0.gotos k0.loops k0.A8 k0.GA k0.e k0.when y8.2.1 k0.names).bind fun y12=>
 ck ((I k0.names.length -1).toNat<y12.2.2.2.1.1.length)<|
 Mf A1 (decide ((4:Int)=0)) (Dop.FV.mk y12.2.1.1 y12.2.1.2.1 y12.2.1.2.2.1,(),y12.2.1.2.2.2.2.1,y12.2.1.2.2.2.2.2.1,y12.2.1.2.2.2.2.2.2.1,y12.2.1.2.2.2.2.2.2.2.1,y12.2.1.2.2.2.2.2.2.2.2.1,y12.2.2.2.1.1.set (I k0.names.length -1).toNat (BF (List.getD y12.2.2.2.1.1 (I k0.names.length -1).toNat (([]:List (List UInt8×Dop.B3)))) t1 A1),y12.2.1.2.2.2.2.2.2.2.2.2.2.1,y12.2.1.2.2.2.2.2.2.2.2.2.2.2.1,Dop.Db.mk y12.2.1.2.2.2.2.2.2.2.2.2.2.2.2.1 y12.2.1.2.2.2.2.2.2.2.2.2.2.2.2.2.1 y12.2.1.2.2.2.2.2.2.2.2.2.2.2.2.2.2.1 y12.2.1.2.2.2.2.2.2.2.2.2.2.2.2.2.2.2.1 y12.2.1.2.2.2.2.2.2.2.2.2.2.2.2.2.2.2.2.1,y12.2.1.2.2.2.2.2.2.2.2.2.2.2.2.2.2.2.2.2.1,y12.2.1.2.2.2.2.2.2.2.2.2.2.2.2.2.2.2.2.2.2.1,y12.2.1.2.2.2.2.2.2.2.2.2.2.2.2.2.2.2.2.2.2.2.1,y12.2.1.2.2.2.2.2.2.2.2.2.2.2.2.2.2.2.2.2.2.2.2.1,y12.2.1.2.2.2.2.2.2.2.2.2.2.2.2.2.2.2.2.2.2.2.2.2.1,y12.2.1.2.2.2.2.2.2.2.2.2.2.2.2.2.2.2.2.2.2.2.2.2.2.1,4,y12.1.1.at_,()) y12.2.2.1)<|
 z1)<|
 z1)<|
 (DL.k t2 y2.2.1).bind fun y6=>
 let z2:c6 Dop.B3 Bool CK CT:=
 ck ((I k0.names.length -1).toNat<k0.names.length)<|
 Mf A1 (decide (k0.e=0)) (CK.Ws (CK.B5 k0 (k0.names.set (I k0.names.length -1).toNat (BF (List.getD k0.names (I k0.names.length -1).toNat (([]:List (List UInt8×Dop.B3)))) t1 A1))) (Dop.Db.mk k0.f.name k0.f.params k0.f.BH (k0.f.frame+y2.1.1) k0.f.body)) y6.2.1
 ci y6.1.1 (ci ((AL k0.taken t1).getD (0:Int)=0) (ci (k0.f.BH=4096) (ci (k0.e=0) ((GQ.k t3 k0.t k0.num k0.funcs k0.globals k0.top k0.nodes k0.sigs k0.taken k0.f k0.BO k0.labels k0.gotos k0.loops k0.A8 k0.GA k0.e k0.when y6.2.1 k0.names).bind fun y11=>
 ck ((I k0.names.length -1).toNat<y11.2.2.2.1.1.length)<|
 Mf (Dop.B3.mk 2 0 t2) (decide ((4:Int)=0)) (Dop.FV.mk y11.2.1.1 y11.2.1.2.1 y11.2.1.2.2.1,(),y11.2.1.2.2.2.2.1,y11.2.1.2.2.2.2.2.1,y11.2.1.2.2.2.2.2.2.1,y11.2.1.2.2.2.2.2.2.2.1,y11.2.1.2.2.2.2.2.2.2.2.1,y11.2.2.2.1.1.set (I k0.names.length -1).toNat (BF (List.getD y11.2.2.2.1.1 (I k0.names.length -1).toNat (([]:List (List UInt8×Dop.B3)))) t1 (Dop.B3.mk 2 0 t2)),y11.2.1.2.2.2.2.2.2.2.2.2.2.1,y11.2.1.2.2.2.2.2.2.2.2.2.2.2.1,Dop.Db.mk y11.2.1.2.2.2.2.2.2.2.2.2.2.2.2.1 y11.2.1.2.2.2.2.2.2.2.2.2.2.2.2.2.1 y11.2.1.2.2.2.2.2.2.2.2.2.2.2.2.2.2.1 y11.2.1.2.2.2.2.2.2.2.2.2.2.2.2.2.2.2.1 y11.2.1.2.2.2.2.2.2.2.2.2.2.2.2.2.2.2.2.1,y11.2.1.2.2.2.2.2.2.2.2.2.2.2.2.2.2.2.2.2.1,y11.2.1.2.2.2.2.2.2.2.2.2.2.2.2.2.2.2.2.2.2.1,y11.2.1.2.2.2.2.2.2.2.2.2.2.2.2.2.2.2.2.2.2.2.1,y11.2.1.2.2.2.2.2.2.2.2.2.2.2.2.2.2.2.2.2.2.2.2.1,y11.2.1.2.2.2.2.2.2.2.2.2.2.2.2.2.2.2.2.2.2.2.2.2.1,y11.2.1.2.2.2.2.2.2.2.2.2.2.2.2.2.2.2.2.2.2.2.2.2.2.1,4,y11.1.1.at_,()) y11.2.2.1)<|
 ck ((I k0.names.length -1).toNat<k0.names.length)<|
 Mf (Dop.B3.mk 2 0 t2) (decide (k0.e=0)) (CK.B5 k0 (k0.names.set (I k0.names.length -1).toNat (BF (List.getD k0.names (I k0.names.length -1).toNat (([]:List (List UInt8×Dop.B3)))) t1 (Dop.B3.mk 2 0 t2)))) y6.2.1)<|
 ck (Av (k0.f.BH+1))<|
 ck A4<|
 ck ((I k0.names.length -1).toNat<k0.names.length)<|
 Mf A2 (decide (k0.e=0)) (CK.Ws (CK.B5 k0 (k0.names.set (I k0.names.length -1).toNat (BF (List.getD k0.names (I k0.names.length -1).toNat (([]:List (List UInt8×Dop.B3)))) t1 A2))) A3) y6.2.1)<|
 ck (Av (k0.f.frame+y2.1.1))<|
 ci (4096<k0.f.frame+y2.1.1) (ci (k0.e=0) ((GQ.k t3 k0.t k0.num k0.funcs k0.globals k0.top k0.nodes k0.sigs k0.taken (Dop.Db.mk k0.f.name k0.f.params k0.f.BH (k0.f.frame+y2.1.1) k0.f.body) k0.BO k0.labels k0.gotos k0.loops k0.A8 k0.GA k0.e k0.when y6.2.1 k0.names).bind fun y11=>
 ck ((I k0.names.length -1).toNat<y11.2.2.2.1.1.length)<|
 Mf A1 (decide ((4:Int)=0)) (Dop.FV.mk y11.2.1.1 y11.2.1.2.1 y11.2.1.2.2.1,(),y11.2.1.2.2.2.2.1,y11.2.1.2.2.2.2.2.1,y11.2.1.2.2.2.2.2.2.1,y11.2.1.2.2.2.2.2.2.2.1,y11.2.1.2.2.2.2.2.2.2.2.1,y11.2.2.2.1.1.set (I k0.names.length -1).toNat (BF (List.getD y11.2.2.2.1.1 (I k0.names.length -1).toNat (([]:List (List UInt8×Dop.B3)))) t1 A1),y11.2.1.2.2.2.2.2.2.2.2.2.2.1,y11.2.1.2.2.2.2.2.2.2.2.2.2.2.1,Dop.Db.mk y11.2.1.2.2.2.2.2.2.2.2.2.2.2.2.1 y11.2.1.2.2.2.2.2.2.2.2.2.2.2.2.2.1 y11.2.1.2.2.2.2.2.2.2.2.2.2.2.2.2.2.1 y11.2.1.2.2.2.2.2.2.2.2.2.2.2.2.2.2.2.1 y11.2.1.2.2.2.2.2.2.2.2.2.2.2.2.2.2.2.2.1,y11.2.1.2.2.2.2.2.2.2.2.2.2.2.2.2.2.2.2.2.1,y11.2.1.2.2.2.2.2.2.2.2.2.2.2.2.2.2.2.2.2.2.1,y11.2.1.2.2.2.2.2.2.2.2.2.2.2.2.2.2.2.2.2.2.2.1,y11.2.1.2.2.2.2.2.2.2.2.2.2.2.2.2.2.2.2.2.2.2.2.1,y11.2.1.2.2.2.2.2.2.2.2.2.2.2.2.2.2.2.2.2.2.2.2.2.1,y11.2.1.2.2.2.2.2.2.2.2.2.2.2.2.2.2.2.2.2.2.2.2.2.2.1,4,y11.1.1.at_,()) y11.2.2.1)<|
 z2)<|
 z2)<|
 ck (Av (k0.f.frame+y2.1.1))<|
 ci (4096<k0.f.frame+y2.1.1) (ci (k0.e=0) ((GQ.k t3 k0.t k0.num k0.funcs k0.globals k0.top k0.nodes k0.sigs k0.taken (Dop.Db.mk k0.f.name k0.f.params k0.f.BH (k0.f.frame+y2.1.1) k0.f.body) k0.BO k0.labels k0.gotos k0.loops k0.A8 k0.GA k0.e k0.when y6.2.1 k0.names).bind fun y10=>
 ck ((I k0.names.length -1).toNat<y10.2.2.2.1.1.length)<|
 Mf A1 (decide ((4:Int)=0)) (Dop.FV.mk y10.2.1.1 y10.2.1.2.1 y10.2.1.2.2.1,(),y10.2.1.2.2.2.2.1,y10.2.1.2.2.2.2.2.1,y10.2.1.2.2.2.2.2.2.1,y10.2.1.2.2.2.2.2.2.2.1,y10.2.1.2.2.2.2.2.2.2.2.1,y10.2.2.2.1.1.set (I k0.names.length -1).toNat (BF (List.getD y10.2.2.2.1.1 (I k0.names.length -1).toNat (([]:List (List UInt8×Dop.B3)))) t1 A1),y10.2.1.2.2.2.2.2.2.2.2.2.2.1,y10.2.1.2.2.2.2.2.2.2.2.2.2.2.1,Dop.Db.mk y10.2.1.2.2.2.2.2.2.2.2.2.2.2.2.1 y10.2.1.2.2.2.2.2.2.2.2.2.2.2.2.2.1 y10.2.1.2.2.2.2.2.2.2.2.2.2.2.2.2.2.1 y10.2.1.2.2.2.2.2.2.2.2.2.2.2.2.2.2.2.1 y10.2.1.2.2.2.2.2.2.2.2.2.2.2.2.2.2.2.2.1,y10.2.1.2.2.2.2.2.2.2.2.2.2.2.2.2.2.2.2.2.1,y10.2.1.2.2.2.2.2.2.2.2.2.2.2.2.2.2.2.2.2.2.1,y10.2.1.2.2.2.2.2.2.2.2.2.2.2.2.2.2.2.2.2.2.2.1,y10.2.1.2.2.2.2.2.2.2.2.2.2.2.2.2.2.2.2.2.2.2.2.1,y10.2.1.2.2.2.2.2.2.2.2.2.2.2.2.2.2.2.2.2.2.2.2.2.1,y10.2.1.2.2.2.2.2.2.2.2.2.2.2.2.2.2.2.2.2.2.2.2.2.2.1,4,y10.1.1.at_,()) y10.2.2.1)<|
 z2)<|
 z2
def Hi.Kc:=kd 130 Hi.p fun x=>Hi.k x.1.2.1 x.1.2.2.1 x.1.2.2.2.1 x.1.2.2.2.2.1 x.2.1 x.2.2.1
theorem Hi.Kh:Hi.Kc.Holds prog:=kh AJ (hc BW.J1 (hc DL.Kh (hc Ac.Kh (hc GQ.Kh hn)))) Hi.ok (by kernel_rfl)
abbrev Cc.kr (r:Fb.T) (n:Int) (k0:CK) (k1:CT):Mk CK CT:=r.1 (((),n,()),(k0,k1,()))
abbrev OE.T:Type:=Dop.cy→Int→CK→CT→Mk CK CT
abbrev Cc.KT:Type:=OE.T×Unit
def OE.kB (rK:Fb.T) (tK:Cc.KT):OE.T:=fun t45 t46 k0 k1=>
 ci (t46<4) (ck (0≤t46∧t46<I 4)<|
 ci (0≤(t45.x0::t45.x1::t45.x2::t45.x3::[]).getD t46.toNat 0) ((Cc.kr rK ((t45.x0::t45.x1::t45.x2::t45.x3::[]).getD t46.toNat 0) k0 k1).bind fun y4=>
 ck (Av (t46+1))<|
 tK.1 t45 (t46+1) y4.2.1 y4.2.2.1)<|
 ck (Av (t46+1))<|
 tK.1 t45 (t46+1) k0 k1)<|
 Wa k0 k1
def Cc.kS (rK:Fb.T) (tK:Cc.KT):Cc.KT:=(OE.kB rK tK,())
def Cc.kL (rK:Fb.T) (n:Nat):Cc.KT:=Eu (Cc.kS rK) n
def Cc.k0 (rK:Fb.T) (tK:Cc.KT) (n:Int) (k0:CK) (k1:CT):Mk CK CT:=
 (Cr.k n k0.t k0.num k0.funcs k0.globals k0.top k0.nodes k0.names k0.sigs k0.f k0.BO k0.loops k0.A8 k0.GA k0.e k0.when k1).bind fun y2=>
 ci (y2.1.1.kind=3) (ci (y2.1.1.text=(38:UInt8)::[]) ((Cr.k y2.1.1.a (Dop.FV.mk y2.2.1.1 y2.2.1.2.1 y2.2.1.2.2.1) y2.2.1.2.2.2.2.1 y2.2.1.2.2.2.2.2.1 y2.2.1.2.2.2.2.2.2.1 y2.2.1.2.2.2.2.2.2.2.1 y2.2.1.2.2.2.2.2.2.2.2.1 y2.2.1.2.2.2.2.2.2.2.2.2.1 y2.2.1.2.2.2.2.2.2.2.2.2.2.1 (Dop.Db.mk y2.2.1.2.2.2.2.2.2.2.2.2.2.2.2.1 y2.2.1.2.2.2.2.2.2.2.2.2.2.2.2.2.1 y2.2.1.2.2.2.2.2.2.2.2.2.2.2.2.2.2.1 y2.2.1.2.2.2.2.2.2.2.2.2.2.2.2.2.2.2.1 y2.2.1.2.2.2.2.2.2.2.2.2.2.2.2.2.2.2.2.1) y2.2.1.2.2.2.2.2.2.2.2.2.2.2.2.2.2.2.2.2.1 y2.2.1.2.2.2.2.2.2.2.2.2.2.2.2.2.2.2.2.2.2.2.2.1 y2.2.1.2.2.2.2.2.2.2.2.2.2.2.2.2.2.2.2.2.2.2.2.2.1 y2.2.1.2.2.2.2.2.2.2.2.2.2.2.2.2.2.2.2.2.2.2.2.2.2.1 y2.2.1.2.2.2.2.2.2.2.2.2.2.2.2.2.2.2.2.2.2.2.2.2.2.2.1 y2.2.1.2.2.2.2.2.2.2.2.2.2.2.2.2.2.2.2.2.2.2.2.2.2.2.2.1 y2.2.2.1).bind fun y5=>
 ci (y5.1.1.kind=2) ((Cr.k y2.1.1.a (Dop.FV.mk y5.2.1.1 y5.2.1.2.1 y5.2.1.2.2.1) y5.2.1.2.2.2.2.1 y5.2.1.2.2.2.2.2.1 y5.2.1.2.2.2.2.2.2.1 y5.2.1.2.2.2.2.2.2.2.1 y5.2.1.2.2.2.2.2.2.2.2.1 y5.2.1.2.2.2.2.2.2.2.2.2.1 y5.2.1.2.2.2.2.2.2.2.2.2.2.1 (Dop.Db.mk y5.2.1.2.2.2.2.2.2.2.2.2.2.2.2.1 y5.2.1.2.2.2.2.2.2.2.2.2.2.2.2.2.1 y5.2.1.2.2.2.2.2.2.2.2.2.2.2.2.2.2.1 y5.2.1.2.2.2.2.2.2.2.2.2.2.2.2.2.2.2.1 y5.2.1.2.2.2.2.2.2.2.2.2.2.2.2.2.2.2.2.1) y5.2.1.2.2.2.2.2.2.2.2.2.2.2.2.2.2.2.2.2.1 y5.2.1.2.2.2.2.2.2.2.2.2.2.2.2.2.2.2.2.2.2.2.2.1 y5.2.1.2.2.2.2.2.2.2.2.2.2.2.2.2.2.2.2.2.2.2.2.2.1 y5.2.1.2.2.2.2.2.2.2.2.2.2.2.2.2.2.2.2.2.2.2.2.2.2.1 y5.2.1.2.2.2.2.2.2.2.2.2.2.2.2.2.2.2.2.2.2.2.2.2.2.2.1 y5.2.1.2.2.2.2.2.2.2.2.2.2.2.2.2.2.2.2.2.2.2.2.2.2.2.2.1 y5.2.2.1).bind fun y7=>
 ck (Av ((AL k0.taken y7.1.1.text).getD (0:Int)+1))<|
 tK.1 (Dop.cy.mk y2.1.1.a y2.1.1.b y2.1.1.c y2.1.1.d) 0 ((CK.E7 (CK.Wr (CK.KH (CK.Gc (CK.Hd (CK.K4 (CK.Ws (CK.Yb (CK.IQ (CK.B5 (CK.Ei (CK.NS (CK.Ev (CK.JF (CK.MQ (CK.fu k0 (Dop.FV.mk y7.2.1.1 y7.2.1.2.1 y7.2.1.2.2.1)) y7.2.1.2.2.2.2.1) y7.2.1.2.2.2.2.2.1) y7.2.1.2.2.2.2.2.2.1) y7.2.1.2.2.2.2.2.2.2.1) y7.2.1.2.2.2.2.2.2.2.2.1) y7.2.1.2.2.2.2.2.2.2.2.2.1) y7.2.1.2.2.2.2.2.2.2.2.2.2.1) (BF k0.taken y7.1.1.text ((AL k0.taken y7.1.1.text).getD (0:Int)+1))) (Dop.Db.mk y7.2.1.2.2.2.2.2.2.2.2.2.2.2.2.1 y7.2.1.2.2.2.2.2.2.2.2.2.2.2.2.2.1 y7.2.1.2.2.2.2.2.2.2.2.2.2.2.2.2.2.1 y7.2.1.2.2.2.2.2.2.2.2.2.2.2.2.2.2.2.1 y7.2.1.2.2.2.2.2.2.2.2.2.2.2.2.2.2.2.2.1)) y7.2.1.2.2.2.2.2.2.2.2.2.2.2.2.2.2.2.2.2.1) y7.2.1.2.2.2.2.2.2.2.2.2.2.2.2.2.2.2.2.2.2.2.2.1) y7.2.1.2.2.2.2.2.2.2.2.2.2.2.2.2.2.2.2.2.2.2.2.2.1) y7.2.1.2.2.2.2.2.2.2.2.2.2.2.2.2.2.2.2.2.2.2.2.2.2.1) y7.2.1.2.2.2.2.2.2.2.2.2.2.2.2.2.2.2.2.2.2.2.2.2.2.2.1) y7.2.1.2.2.2.2.2.2.2.2.2.2.2.2.2.2.2.2.2.2.2.2.2.2.2.2.1)) y7.2.2.1)<|
 tK.1 (Dop.cy.mk y2.1.1.a y2.1.1.b y2.1.1.c y2.1.1.d) 0 ((CK.E7 (CK.Wr (CK.KH (CK.Gc (CK.Hd (CK.K4 (CK.Ws (CK.IQ (CK.B5 (CK.Ei (CK.NS (CK.Ev (CK.JF (CK.MQ (CK.fu k0 (Dop.FV.mk y5.2.1.1 y5.2.1.2.1 y5.2.1.2.2.1)) y5.2.1.2.2.2.2.1) y5.2.1.2.2.2.2.2.1) y5.2.1.2.2.2.2.2.2.1) y5.2.1.2.2.2.2.2.2.2.1) y5.2.1.2.2.2.2.2.2.2.2.1) y5.2.1.2.2.2.2.2.2.2.2.2.1) y5.2.1.2.2.2.2.2.2.2.2.2.2.1) (Dop.Db.mk y5.2.1.2.2.2.2.2.2.2.2.2.2.2.2.1 y5.2.1.2.2.2.2.2.2.2.2.2.2.2.2.2.1 y5.2.1.2.2.2.2.2.2.2.2.2.2.2.2.2.2.1 y5.2.1.2.2.2.2.2.2.2.2.2.2.2.2.2.2.2.1 y5.2.1.2.2.2.2.2.2.2.2.2.2.2.2.2.2.2.2.1)) y5.2.1.2.2.2.2.2.2.2.2.2.2.2.2.2.2.2.2.2.1) y5.2.1.2.2.2.2.2.2.2.2.2.2.2.2.2.2.2.2.2.2.2.2.1) y5.2.1.2.2.2.2.2.2.2.2.2.2.2.2.2.2.2.2.2.2.2.2.2.1) y5.2.1.2.2.2.2.2.2.2.2.2.2.2.2.2.2.2.2.2.2.2.2.2.2.1) y5.2.1.2.2.2.2.2.2.2.2.2.2.2.2.2.2.2.2.2.2.2.2.2.2.2.1) y5.2.1.2.2.2.2.2.2.2.2.2.2.2.2.2.2.2.2.2.2.2.2.2.2.2.2.1)) y5.2.2.1)<|
 tK.1 (Dop.cy.mk y2.1.1.a y2.1.1.b y2.1.1.c y2.1.1.d) 0 ((CK.E7 (CK.Wr (CK.KH (CK.Gc (CK.Hd (CK.K4 (CK.Ws (CK.IQ (CK.B5 (CK.Ei (CK.NS (CK.Ev (CK.JF (CK.MQ (CK.fu k0 (Dop.FV.mk y2.2.1.1 y2.2.1.2.1 y2.2.1.2.2.1)) y2.2.1.2.2.2.2.1) y2.2.1.2.2.2.2.2.1) y2.2.1.2.2.2.2.2.2.1) y2.2.1.2.2.2.2.2.2.2.1) y2.2.1.2.2.2.2.2.2.2.2.1) y2.2.1.2.2.2.2.2.2.2.2.2.1) y2.2.1.2.2.2.2.2.2.2.2.2.2.1) (Dop.Db.mk y2.2.1.2.2.2.2.2.2.2.2.2.2.2.2.1 y2.2.1.2.2.2.2.2.2.2.2.2.2.2.2.2.1 y2.2.1.2.2.2.2.2.2.2.2.2.2.2.2.2.2.1 y2.2.1.2.2.2.2.2.2.2.2.2.2.2.2.2.2.2.1 y2.2.1.2.2.2.2.2.2.2.2.2.2.2.2.2.2.2.2.1)) y2.2.1.2.2.2.2.2.2.2.2.2.2.2.2.2.2.2.2.2.1) y2.2.1.2.2.2.2.2.2.2.2.2.2.2.2.2.2.2.2.2.2.2.2.1) y2.2.1.2.2.2.2.2.2.2.2.2.2.2.2.2.2.2.2.2.2.2.2.2.1) y2.2.1.2.2.2.2.2.2.2.2.2.2.2.2.2.2.2.2.2.2.2.2.2.2.1) y2.2.1.2.2.2.2.2.2.2.2.2.2.2.2.2.2.2.2.2.2.2.2.2.2.2.1) y2.2.1.2.2.2.2.2.2.2.2.2.2.2.2.2.2.2.2.2.2.2.2.2.2.2.2.1)) y2.2.2.1)<|
 tK.1 (Dop.cy.mk y2.1.1.a y2.1.1.b y2.1.1.c y2.1.1.d) 0 ((CK.E7 (CK.Wr (CK.KH (CK.Gc (CK.Hd (CK.K4 (CK.Ws (CK.IQ (CK.B5 (CK.Ei (CK.NS (CK.Ev (CK.JF (CK.MQ (CK.fu k0 (Dop.FV.mk y2.2.1.1 y2.2.1.2.1 y2.2.1.2.2.1)) y2.2.1.2.2.2.2.1) y2.2.1.2.2.2.2.2.1) y2.2.1.2.2.2.2.2.2.1) y2.2.1.2.2.2.2.2.2.2.1) y2.2.1.2.2.2.2.2.2.2.2.1) y2.2.1.2.2.2.2.2.2.2.2.2.1) y2.2.1.2.2.2.2.2.2.2.2.2.2.1) (Dop.Db.mk y2.2.1.2.2.2.2.2.2.2.2.2.2.2.2.1 y2.2.1.2.2.2.2.2.2.2.2.2.2.2.2.2.1 y2.2.1.2.2.2.2.2.2.2.2.2.2.2.2.2.2.1 y2.2.1.2.2.2.2.2.2.2.2.2.2.2.2.2.2.2.1 y2.2.1.2.2.2.2.2.2.2.2.2.2.2.2.2.2.2.2.1)) y2.2.1.2.2.2.2.2.2.2.2.2.2.2.2.2.2.2.2.2.1) y2.2.1.2.2.2.2.2.2.2.2.2.2.2.2.2.2.2.2.2.2.2.2.1) y2.2.1.2.2.2.2.2.2.2.2.2.2.2.2.2.2.2.2.2.2.2.2.2.1) y2.2.1.2.2.2.2.2.2.2.2.2.2.2.2.2.2.2.2.2.2.2.2.2.2.1) y2.2.1.2.2.2.2.2.2.2.2.2.2.2.2.2.2.2.2.2.2.2.2.2.2.2.1) y2.2.1.2.2.2.2.2.2.2.2.2.2.2.2.2.2.2.2.2.2.2.2.2.2.2.2.1)) y2.2.2.1
def Cc.kf (rK:Fb.T) (n:Int) (k0:CK) (k1:CT):Mk CK CT:=Cc.k0 rK (Cc.kL rK 1000000) n k0 k1
def Fb.kS (r:Fb.T):Fb.T:=(fun x=>Cc.kf r x.1.2.1 x.2.1 x.2.2.1,())
def Fb.kR (n:Nat):Fb.T:=Eu Fb.kS n
def Cc.Kc (n:Nat):=kd 129 Cc.p (Fb.kR n).1
def Cc.QZ:=Cc.Kc FU
def Cc.k:=Cc.kr (Fb.kR FU)
def Fb.UJ (n:Nat):List (Bw Dop.D4):=[Cc.Kc n]
theorem Fb.Gg: ∀ n,(Cc.Kc n).Holds prog∧True
 | 0=>⟨Ae AJ Cc.ok,trivial⟩
 | n+1=>by
  obtain ⟨h0,_⟩:=Fb.Gg n
  have hh: ∀ c∈Fb.UJ n,c.Holds prog:=(hc h0 hn)
  exact ⟨GG AJ (BA hh (hc Cr.Kh hn)) Cc.ok (fun t x=>Cc.k0 (Fb.kR n) t x.1.2.1 x.2.1 x.2.2.1) (fun c=>(fun t45 t46 k0 k1=>c 4 Cc.q4 rfl (((),t45,t46,()),(k0,k1,())),())) (Cc.kS (Fb.kR n)) (by kernel_rfl),
   trivial⟩
theorem Cc.J1:Cc.QZ.Holds prog:=(Fb.Gg FU).1
def GP.k (n:Int) (k0:CH) (k1:CT):R2 Dop.Aa CH CT:=
 let A1:=BR (Dop.Aa.mk 0 (-1) (-1) (-1) (-1) [] 0 0 0) k0 k1
 ci (n<0) A1<|
 ci (I k0.t.nodes.length≤n) A1<|
 ck (0≤n∧n<I k0.t.nodes.length)<|
 BR (List.getD k0.t.nodes n.toNat Dop.d5) k0 k1
def GP.Kc:=kd 74 GP.p fun x=>GP.k x.1.2.1 x.2.1 x.2.2.1
theorem GP.Kh:GP.Kc.Holds prog:=kh AJ hn GP.ok (by kernel_rfl)
def CY.k (e n:Int) (k0:CH) (k1:CT):R2 Dop.AZ CH CT:=
 let A1:=Dop.AZ.mk (-1) 1 0 0 false
 ci (k0.e=0) ((GP.k n k0 k1).bind fun y3=>
 BR A1 (CH.E7 (CH.Wr y3.2.1 e) y3.1.1.at_) y3.2.2.1)<|
 BR A1 k0 k1
def CY.Kc:=kd 123 CY.p fun x=>CY.k x.1.2.1 x.1.2.2.1 x.2.1 x.2.2.1
theorem CY.Kh:CY.Kc.Holds prog:=kh AJ (hc GP.Kh hn) CY.ok (by kernel_rfl)
abbrev Kg.T:Type:=Int→Int→Int→CH→CT→R2 Int CH CT
abbrev Iy.T:Type:=Int→Int→Int→Int→Int→CH→CT→R2 Int CH CT
abbrev BL.KT:Type:=Kg.T×Iy.T×Unit
def Kg.kB (tK:BL.KT):Kg.T:=fun t1 t2 t7 k0 k1=>
 let A1:=List.getD k0.t.types t7.toNat Dop.d6
 let A2:=List.getD k0.num A1.elem.toNat 0
 let z1:R2 Int CH CT:=
 ck (0≤t1∧t1<I k0.num.length)<|
 ck (t1.toNat<k0.num.length)<|
 BR (List.getD k0.num t1.toNat 0) k0 k1
 ci (t7≤t1) (ci (t7<I k0.t.types.length) (ck (0≤t7∧t7<I k0.t.types.length)<|
 ci (A1.kind=4) (ck (0≤A1.elem∧A1.elem<I k0.num.length)<|
 ck (A1.elem.toNat<k0.num.length)<|
 (IA.k A2 k1).bind fun y5=>
 tK.2.1 t1 t2 t7 y5.1.1 y5.1.2.1 k0 y5.2.1)<|
 ci (A1.kind=5) (ck (0≤A1.elem∧A1.elem<I k0.num.length)<|
 ck (A1.elem.toNat<k0.num.length)<|
 (Ji.k A2 (A1.n) k1).bind fun y6=>
 tK.2.1 t1 t2 t7 y6.1.1 y6.1.2.1 k0 y6.2.1)<|
 ci (A1.kind=6) ((IB.k (A1.name) k1).bind fun y7=>
 tK.2.1 t1 t2 t7 y7.1.1 y7.1.2.1 k0 y7.2.1)<|
 tK.2.1 t1 t2 t7 t7 0 k0 k1)<|
 z1)<|
 z1
def Iy.kB (tK:BL.KT):Iy.T:=fun t1 t2 t7 t9 t10 k0 k1=>
 ci (!(t10=0)) ((CY.k t10 t2 k0 k1).bind fun y3=>
 BR 1 y3.2.1 y3.2.2.1)<|
 ck (Cj none (room 8 (k0.num.length+(t9::[]).length)))<|
 ck (Av (t7+1))<|
 tK.1 t1 t2 (t7+1) ((CH.MQ k0 (k0.num++t9::[]))) k1
def BL.kS (tK:BL.KT):BL.KT:=(Kg.kB tK,Iy.kB tK,())
def BL.kL (n:Nat):BL.KT:=Eu BL.kS n
def BL.k0 (tK:BL.KT) (t1 t2:Int) (k0:CH) (k1:CT):R2 Int CH CT:=
 tK.1 t1 t2 (I k0.num.length) k0 k1
def BL.k (t1 t2:Int) (k0:CH) (k1:CT):R2 Int CH CT:=BL.k0 (BL.kL 1000000) t1 t2 k0 k1
def BL.Kc:=kd 121 BL.p fun x=>BL.k x.1.2.1 x.1.2.2.1 x.2.1 x.2.2.1
theorem BL.Kh:BL.Kc.Holds prog:=GG AJ (hc IA.Kh (hc Ji.Kh (hc IB.Kh (hc CY.Kh hn)))) BL.ok (fun t x=>BL.k0 t x.1.2.1 x.1.2.2.1 x.2.1 x.2.2.1) (fun c=>(fun t1 t2 t7 k0 k1=>c 2 BL.q2 rfl (((),t1,t2,t7,()),(k0,k1,())),fun t1 t2 t7 t9 t10 k0 k1=>c 13 BL.WY rfl (((),t1,t2,t7,t9,t10,()),(k0,k1,())),())) BL.kS (by kernel_rfl)
abbrev OV.T:Type:=Int→List Dop.Mg→List Int→Int→Int→CH→CT→Dop.Aa→Mk CH CT
abbrev D5.KT:Type:=OV.T×Unit
def OV.kB (tK:D5.KT):OV.T:=fun n l t16 t17 t18 k0 k1 b2=>
 let A1:=List.getD t16 t18.toNat 0
 ci (t18<t17) (ck (0≤t18∧t18<I t16.length)<|
 ck (t18.toNat<t16.length)<|
 (GP.k A1 k0 k1).bind fun y3=>
 (GP.k A1 y3.2.1 y3.2.2.1).bind fun y4=>
 (BL.k y4.1.1.AW A1 y4.2.1 y4.2.2.1).bind fun y5=>
 ck (Cj none (room 24 (l.length+(Dop.Mg.mk y3.1.1.text y5.1.1::[]).length)))<|
 ck (Av (t18+1))<|
 tK.1 n (l++Dop.Mg.mk y3.1.1.text y5.1.1::[]) t16 t17 (t18+1) y5.2.1 y5.2.2.1 b2)<|
 ci (!(k0.e=0)) (Wa k0 k1)<|
 (DK.k b2.text l k1).bind fun y4=>
 ci (!(y4.1.1=0)) ((CY.k y4.1.1 n k0 y4.2.1).bind bT)<|
 Wa k0 y4.2.1
def D5.kS (tK:D5.KT):D5.KT:=(OV.kB tK,())
def D5.kL (n:Nat):D5.KT:=Eu D5.kS n
def D5.k0 (tK:D5.KT) (x:Dop.Aa) (n:Int) (k0:CH) (k1:CT):Mk CH CT:=
 (F5.k k0.t x.a).bind fun y2=>
 tK.1 n [] y2.1.1 (I y2.1.1.length) 0 k0 k1 x
def D5.k (x:Dop.Aa) (n:Int) (k0:CH) (k1:CT):Mk CH CT:=D5.k0 (D5.kL 1000000) x n k0 k1
def D5.Kc:=kd 75 D5.p fun x=>D5.k x.1.2.1 x.1.2.2.1 x.2.1 x.2.2.1
theorem D5.Kh:D5.Kc.Holds prog:=GG AJ (hc F5.Kh (hc GP.Kh (hc BL.Kh (hc DK.Kh (hc CY.Kh hn))))) D5.ok (fun t x=>D5.k0 t x.1.2.1 x.1.2.2.1 x.2.1 x.2.2.1) (fun c=>(fun n l t16 t17 t18 k0 k1 b2=>c 3 D5.q3 rfl (((),n,(),l,t16,t17,t18,()),(k0,k1,(b2,()),())),())) D5.kS (by kernel_rfl)
def FK.k (t:Int) (k0:CH) (k1:CT):R2 Int CH CT:=
 (Eb.k t k1).bind fun y2=>
 BR y2.1.1.kind k0 y2.2.1
def FK.Kc:=kd 127 FK.p fun x=>FK.k x.1.2.1 x.2.1 x.2.2.1
theorem FK.Kh:FK.Kc.Holds prog:=kh AJ (hc Eb.Kh hn) FK.ok (by kernel_rfl)
def G5.k (t:Int) (k0:CH) (k1:CT):R2 Bool CH CT:=
 (FK.k t k0 k1).bind fun y2=>
 ci (y2.1.1=1) (BR true y2.2.1 y2.2.2.1)<|
 ci (y2.1.1=2) (BR true y2.2.1 y2.2.2.1)<|
 BR (decide (y2.1.1=3)) y2.2.1 y2.2.2.1
def G5.Kc:=kd 125 G5.p fun x=>G5.k x.1.2.1 x.2.1 x.2.2.1
theorem G5.Kh:G5.Kc.Holds prog:=kh AJ (hc FK.Kh hn) G5.ok (by kernel_rfl)
abbrev K0.T:Type:=Int→Int→Int→CH→CT→Dop.Aa→Mk CH CT
abbrev D6.KT:Type:=K0.T×Unit
def K0.kB (tK:D6.KT):K0.T:=fun t6 t7 t13 k0 k1 b2=>
 ck ((0:Int)≤0∧0<I k0.names.length)<|
 ck (Int.toNat 0<k0.names.length)<|
 ck (Int.toNat 0<k0.names.length)<|
 ck (Cj none (room 40 (k0.globals.length+(Dop.My.mk b2.text k0.top t7 t13::[]).length)))<|
 ck (Av (k0.top+t7))<|
 Wa (CH.B5 (CH.NS (CH.Ev k0 (k0.globals++Dop.My.mk b2.text k0.top t7 t13::[])) (k0.top+t7)) (k0.names.set (Int.toNat 0) (BF (List.getD k0.names (Int.toNat 0) (([]:List (List UInt8×Dop.B3)))) b2.text (Dop.B3.mk 1 k0.top t6)))) k1
def D6.kS (tK:D6.KT):D6.KT:=(K0.kB tK,())
def D6.kL (n:Nat):D6.KT:=Eu D6.kS n
def D6.k0 (tK:D6.KT) (t1:Dop.Aa) (t2:Int) (k0:CH) (k1:CT):Mk CH CT:=
 (BL.k t1.AW t2 k0 k1).bind fun y2=>
 (BW.k y2.1.1 y2.2.2.1).bind fun y3=>
 ck ((0:Int)≤0∧0<I (CH.names y2.2.1).length)<|
 ck (Int.toNat 0<(CH.names y2.2.1).length)<|
 ck (Int.toNat 0<(CH.names y2.2.1).length)<|
 ci (!(CH.e y2.2.1=0)) (Wa y2.2.1 y3.2.1)<|
 ci ((AL (List.getD (CH.names y2.2.1) (Int.toNat 0) (([]:List (List UInt8×Dop.B3)))) t1.text).isSome) ((CY.k 7 t2 y2.2.1 y3.2.1).bind bT)<|
 ci ((AL (CH.sigs y2.2.1) t1.text).isSome) ((CY.k 7 t2 y2.2.1 y3.2.1).bind bT)<|
 ci (!y3.1.2.1) ((CY.k 8 t2 y2.2.1 y3.2.1).bind bT)<|
 ci (!(t1.n=0)) ((G5.k y2.1.1 y2.2.1 y3.2.1).bind fun y9=>
 ci (!y9.1.1) ((CY.k 8 t2 y9.2.1 y9.2.2.1).bind bT)<|
 ck (Av (CH.top y9.2.1+y3.1.1))<|
 ci (4096<CH.top y9.2.1+y3.1.1) ((CY.k 4 t2 y9.2.1 y9.2.2.1).bind bT)<|
 (Hh.k t1.n).bind fun y12=>
 (FK.k y2.1.1 y9.2.1 y9.2.2.1).bind fun y13=>
 ci (y13.1.1=3) (tK.1 y2.1.1 y3.1.1 (bits BinOp.and IntKind.i64 y12.1.1 255) y13.2.1 y13.2.2.1 t1)<|
 tK.1 y2.1.1 y3.1.1 y12.1.1 y13.2.1 y13.2.2.1 t1)<|
 ck (Av (CH.top y2.2.1+y3.1.1))<|
 ci (4096<CH.top y2.2.1+y3.1.1) ((CY.k 4 t2 y2.2.1 y3.2.1).bind bT)<|
 (Hh.k t1.n).bind fun y10=>
 (FK.k y2.1.1 y2.2.1 y3.2.1).bind fun y11=>
 ci (y11.1.1=3) (tK.1 y2.1.1 y3.1.1 (bits BinOp.and IntKind.i64 y10.1.1 255) y11.2.1 y11.2.2.1 t1)<|
 tK.1 y2.1.1 y3.1.1 y10.1.1 y11.2.1 y11.2.2.1 t1
def D6.k (t1:Dop.Aa) (t2:Int) (k0:CH) (k1:CT):Mk CH CT:=D6.k0 (D6.kL 1000000) t1 t2 k0 k1
def D6.Kc:=kd 76 D6.p fun x=>D6.k x.1.2.1 x.1.2.2.1 x.2.1 x.2.2.1
theorem D6.Kh:D6.Kc.Holds prog:=GG AJ (hc BL.Kh (hc BW.J1 (hc CY.Kh (hc G5.Kh (hc Hh.Kh (hc FK.Kh hn)))))) D6.ok (fun t x=>D6.k0 t x.1.2.1 x.1.2.2.1 x.2.1 x.2.2.1) (fun c=>(fun t6 t7 t13 k0 k1 b2=>c 15 D6.hP rfl (((),(),t6,t7,t13,()),(k0,k1,(b2,()),())),())) D6.kS (by kernel_rfl)
abbrev OW.T:Type:=Int→List Int→CH→CT→Dop.Aa→List Int→Int→Mk CH CT
abbrev K1.T:Type:=Int→List Int→Int→Int→CH→CT→Dop.Aa→List Int→Int→Mk CH CT
abbrev DM.KT:Type:=OW.T×K1.T×Unit
def OW.kB (tK:DM.KT):OW.T:=fun t2 t11 k0 k1 b2 b3_0 b3_1=>
 let A1:=CY.k 4 t2 k0 k1
 ci (k0.e=0) (ci (6<I t11.length) (A1.bind fun y4=>
 tK.2.1 t2 t11 (I t11.length) 0 y4.2.1 y4.2.2.1 b2 b3_0 b3_1)<|
 ci (I k0.sigs.length=64) (A1.bind fun y5=>
 tK.2.1 t2 t11 (I t11.length) 0 y5.2.1 y5.2.2.1 b2 b3_0 b3_1)<|
 tK.2.1 t2 t11 (I t11.length) 0 k0 k1 b2 b3_0 b3_1)<|
 tK.2.1 t2 t11 (I t11.length) 0 k0 k1 b2 b3_0 b3_1
def K1.kB (tK:DM.KT):K1.T:=fun t2 t85 t86 t87 k0 k1 b2 b3_0 b3_1=>
 let A2:=List.getD t85 t87.toNat 0
 let A1:=CH.IQ k0 (BF k0.sigs b2.text (Dop.Nb.mk b3_0 b3_1))
 ci (t87<t86) (ck (0≤t87∧t87<I t85.length)<|
 ck (t87.toNat<t85.length)<|
 (GP.k A2 k0 k1).bind fun y3=>
 (BL.k y3.1.1.AW A2 y3.2.1 y3.2.2.1).bind fun y4=>
 ci (CH.e y4.2.1=0) ((DL.k y4.1.1 y4.2.2.1).bind fun y6=>
 ci (!y6.1.1) ((CY.k 8 A2 y4.2.1 y6.2.1).bind fun y8=>
 ck (Cj none (room 8 (b3_0.length+(y4.1.1::[]).length)))<|
 ck (Av (t87+1))<|
 tK.2.1 t2 t85 t86 (t87+1) y8.2.1 y8.2.2.1 b2 (b3_0++y4.1.1::[]) b3_1)<|
 ck (Cj none (room 8 (b3_0.length+(y4.1.1::[]).length)))<|
 ck (Av (t87+1))<|
 tK.2.1 t2 t85 t86 (t87+1) y4.2.1 y6.2.1 b2 (b3_0++y4.1.1::[]) b3_1)<|
 ck (Cj none (room 8 (b3_0.length+(y4.1.1::[]).length)))<|
 ck (Av (t87+1))<|
 tK.2.1 t2 t85 t86 (t87+1) y4.2.1 y4.2.2.1 b2 (b3_0++y4.1.1::[]) b3_1)<|
 ci (k0.e=0) (ci (!(b3_1=0)) ((DL.k b3_1 k1).bind fun y5=>
 ci (!y5.1.1) ((CY.k 8 t2 k0 y5.2.1).bind fun y7=>
 Wa (CH.IQ y7.2.1 (BF (CH.sigs y7.2.1) b2.text (Dop.Nb.mk b3_0 b3_1))) y7.2.2.1)<|
 Wa A1 y5.2.1)<|
 Wa A1 k1)<|
 Wa A1 k1
def DM.kS (tK:DM.KT):DM.KT:=(OW.kB tK,K1.kB tK,())
def DM.kL (n:Nat):DM.KT:=Eu DM.kS n
def DM.k0 (tK:DM.KT) (t1:Dop.Aa) (t2:Int) (k0:CH) (k1:CT):Mk CH CT:=
 (BL.k t1.AW t2 k0 k1).bind fun y2=>
 ck ((0:Int)≤0∧0<I (CH.names y2.2.1).length)<|
 ck (Int.toNat 0<(CH.names y2.2.1).length)<|
 ck (Int.toNat 0<(CH.names y2.2.1).length)<|
 (F5.k (CH.t y2.2.1) t1.a).bind fun y3=>
 ci (CH.e y2.2.1=0) (ci ((AL (CH.sigs y2.2.1) t1.text).isSome) ((CY.k 7 t2 y2.2.1 y2.2.2.1).bind fun y6=>
 tK.1 t2 y3.1.1 y6.2.1 y6.2.2.1 t1 [] y2.1.1)<|
 ci ((AL (List.getD (CH.names y2.2.1) (Int.toNat 0) (([]:List (List UInt8×Dop.B3)))) t1.text).isSome) ((CY.k 7 t2 y2.2.1 y2.2.2.1).bind fun y7=>
 tK.1 t2 y3.1.1 y7.2.1 y7.2.2.1 t1 [] y2.1.1)<|
 tK.1 t2 y3.1.1 y2.2.1 y2.2.2.1 t1 [] y2.1.1)<|
 tK.1 t2 y3.1.1 y2.2.1 y2.2.2.1 t1 [] y2.1.1
def DM.k (t1:Dop.Aa) (t2:Int) (k0:CH) (k1:CT):Mk CH CT:=DM.k0 (DM.kL 1000000) t1 t2 k0 k1
def DM.Kc:=kd 77 DM.p fun x=>DM.k x.1.2.1 x.1.2.2.1 x.2.1 x.2.2.1
theorem DM.Kh:DM.Kc.Holds prog:=GG AJ (hc BL.Kh (hc F5.Kh (hc CY.Kh (hc GP.Kh (hc DL.Kh hn))))) DM.ok (fun t x=>DM.k0 t x.1.2.1 x.1.2.2.1 x.2.1 x.2.2.1) (fun c=>(fun t2 t11 k0 k1 b2 b3_0 b3_1=>c 7 DM.q7 rfl (((),t2,(),(),t11,()),(k0,k1,(b2,()),(b3_0,b3_1,()),())),fun t2 t85 t86 t87 k0 k1 b2 b3_0 b3_1=>c 10 DM.ZC rfl (((),t2,(),(),t85,t86,t87,()),(k0,k1,(b2,()),(b3_0,b3_1,()),())),())) DM.kS (by kernel_rfl)
def I0.k (n:Int) (k0:CK) (k1:CT):R2 Int CK CT:=
 ci (n<0) (BR (-1) k0 k1)<|
 (BU.k n k0 k1).bind fun y3=>
 BR y3.1.1.n y3.2.1 y3.2.2.1
def I0.Kc:=kd 166 I0.p fun x=>I0.k x.1.2.1 x.2.1 x.2.2.1
theorem I0.Kh:I0.Kc.Holds prog:=kh AJ (hc BU.J1 hn) I0.ok (by kernel_rfl)
def Ls.k (x:Dop.Aa) (n:Int) (k0:CK) (k1:CT):R2 Int CK CT:=
 ci (x.a<0) ((Bi.k 37 ((-1)) ((-1)) ((-1)) ((-1)) 0 [] k0 k1).bind Bp)<|
 (CR.k x.a k0 k1).bind fun y3=>
 ci (CK.e y3.2.1=0) (ci (CK.BO y3.2.1=0) ((Ac.k 8 n y3.2.1 y3.2.2.1).bind fun y6=>
 BR y6.1.1.n y6.2.1 y6.2.2.1)<|
 (BE.k y3.1.1 (CK.BO y3.2.1) n false y3.2.1 y3.2.2.1).bind fun y6=>
 (Bi.k 37 y6.1.1 ((-1)) ((-1)) ((-1)) 0 [] y6.2.1 y6.2.2.1).bind Bp)<|
 (BE.k y3.1.1 (CK.BO y3.2.1) n false y3.2.1 y3.2.2.1).bind fun y5=>
 (Bi.k 37 y5.1.1 ((-1)) ((-1)) ((-1)) 0 [] y5.2.1 y5.2.2.1).bind Bp
def Ls.Kc:=kd 169 Ls.p fun x=>Ls.k x.1.2.1 x.1.2.2.1 x.2.1 x.2.2.1
theorem Ls.Kh:Ls.Kc.Holds prog:=kh AJ (hc Bi.Kh (hc CR.J1 (hc Ac.Kh (hc BE.Kh hn)))) Ls.ok (by kernel_rfl)
def Lt.k (t1:Dop.Aa) (t2:Int) (k0:CK) (k1:CT):R2 Int CK CT:=
 let A1:=Dop.AZ.mk (-1) 1 0 0 true
 (C0.k t1.AW t2 k0 k1).bind fun y2=>
 ci (0≤t1.a) ((CR.k t1.a y2.2.1 y2.2.2.1).bind fun y4=>
 (Hi.k t1.text y2.1.1 t2 false y4.2.1 y4.2.2.1).bind fun y5=>
 ci (!y5.1.2.1) (BR (-1) y5.2.1 y5.2.2.1)<|
 (DL.k y2.1.1 y5.2.2.1).bind fun y7=>
 ci (!y7.1.1) (ci (0≤t1.a) ((Ac.k 8 t2 y5.2.1 y7.2.1).bind fun y10=>
 BR y10.1.1.n y10.2.1 y10.2.2.1)<|
 (Bi.k 44 ((-1)) ((-1)) ((-1)) ((-1)) 0 [] y5.2.1 y7.2.1).bind Bp)<|
 ci (t1.a<0) ((EP.k 0 y5.2.1 y7.2.1).bind fun y10=>
 ci (y5.1.1.kind=3) ((FE.k y5.1.1 y10.2.1 y10.2.2.1).bind fun y12=>
 (BE.k (Dop.AZ.mk y10.1.1 y4.1.1.At y4.1.1.left y4.1.1.at_ y4.1.1.zero) y2.1.1 t2 false y12.2.1 y12.2.2.1).bind fun y13=>
 (DS.k (Dop.AZ.mk 0 y2.1.1 2 y12.1.1 false) y13.1.1 y13.2.1 y13.2.2.1).bind fun y14=>
 (Bi.k 30 y14.1.1 ((-1)) ((-1)) ((-1)) 0 [] y14.2.1 y14.2.2.1).bind Bp)<|
 (BE.k (Dop.AZ.mk y10.1.1 y4.1.1.At y4.1.1.left y4.1.1.at_ y4.1.1.zero) y2.1.1 t2 false y10.2.1 y10.2.2.1).bind fun y12=>
 (DS.k (Dop.AZ.mk 0 y2.1.1 1 y5.1.1.n false) y12.1.1 y12.2.1 y12.2.2.1).bind fun y13=>
 (Bi.k 30 y13.1.1 ((-1)) ((-1)) ((-1)) 0 [] y13.2.1 y13.2.2.1).bind Bp)<|
 ci (y5.1.1.kind=3) ((FE.k y5.1.1 y5.2.1 y7.2.1).bind fun y11=>
 (BE.k y4.1.1 y2.1.1 t2 false y11.2.1 y11.2.2.1).bind fun y12=>
 (DS.k (Dop.AZ.mk 0 y2.1.1 2 y11.1.1 false) y12.1.1 y12.2.1 y12.2.2.1).bind fun y13=>
 (Bi.k 30 y13.1.1 ((-1)) ((-1)) ((-1)) 0 [] y13.2.1 y13.2.2.1).bind Bp)<|
 (BE.k y4.1.1 y2.1.1 t2 false y5.2.1 y7.2.1).bind fun y11=>
 (DS.k (Dop.AZ.mk 0 y2.1.1 1 y5.1.1.n false) y11.1.1 y11.2.1 y11.2.2.1).bind fun y12=>
 (Bi.k 30 y12.1.1 ((-1)) ((-1)) ((-1)) 0 [] y12.2.1 y12.2.2.1).bind Bp)<|
 (Hi.k t1.text y2.1.1 t2 false y2.2.1 y2.2.2.1).bind fun y4=>
 ci (!y4.1.2.1) (BR (-1) y4.2.1 y4.2.2.1)<|
 (DL.k y2.1.1 y4.2.2.1).bind fun y6=>
 ci (!y6.1.1) (ci (0≤t1.a) ((Ac.k 8 t2 y4.2.1 y6.2.1).bind fun y9=>
 BR y9.1.1.n y9.2.1 y9.2.2.1)<|
 (Bi.k 44 ((-1)) ((-1)) ((-1)) ((-1)) 0 [] y4.2.1 y6.2.1).bind Bp)<|
 ci (t1.a<0) ((EP.k 0 y4.2.1 y6.2.1).bind fun y9=>
 ci (y4.1.1.kind=3) ((FE.k y4.1.1 y9.2.1 y9.2.2.1).bind fun y11=>
 (BE.k (Dop.AZ.mk y9.1.1 1 0 0 true) y2.1.1 t2 false y11.2.1 y11.2.2.1).bind fun y12=>
 (DS.k (Dop.AZ.mk 0 y2.1.1 2 y11.1.1 false) y12.1.1 y12.2.1 y12.2.2.1).bind fun y13=>
 (Bi.k 30 y13.1.1 ((-1)) ((-1)) ((-1)) 0 [] y13.2.1 y13.2.2.1).bind Bp)<|
 (BE.k (Dop.AZ.mk y9.1.1 1 0 0 true) y2.1.1 t2 false y9.2.1 y9.2.2.1).bind fun y11=>
 (DS.k (Dop.AZ.mk 0 y2.1.1 1 y4.1.1.n false) y11.1.1 y11.2.1 y11.2.2.1).bind fun y12=>
 (Bi.k 30 y12.1.1 ((-1)) ((-1)) ((-1)) 0 [] y12.2.1 y12.2.2.1).bind Bp)<|
 ci (y4.1.1.kind=3) ((FE.k y4.1.1 y4.2.1 y6.2.1).bind fun y10=>
 (BE.k A1 y2.1.1 t2 false y10.2.1 y10.2.2.1).bind fun y11=>
 (DS.k (Dop.AZ.mk 0 y2.1.1 2 y10.1.1 false) y11.1.1 y11.2.1 y11.2.2.1).bind fun y12=>
 (Bi.k 30 y12.1.1 ((-1)) ((-1)) ((-1)) 0 [] y12.2.1 y12.2.2.1).bind Bp)<|
 (BE.k A1 y2.1.1 t2 false y4.2.1 y6.2.1).bind fun y10=>
 (DS.k (Dop.AZ.mk 0 y2.1.1 1 y4.1.1.n false) y10.1.1 y10.2.1 y10.2.2.1).bind fun y11=>
 (Bi.k 30 y11.1.1 ((-1)) ((-1)) ((-1)) 0 [] y11.2.1 y11.2.2.1).bind Bp
def Lt.Kc:=kd 173 Lt.p fun x=>Lt.k x.1.2.1 x.1.2.2.1 x.2.1 x.2.2.1
theorem Lt.Kh:Lt.Kc.Holds prog:=kh AJ (hc C0.Kh (hc CR.J1 (hc Hi.Kh (hc DL.Kh (hc Ac.Kh (hc Bi.Kh (hc EP.Kh (hc FE.Kh (hc BE.Kh (hc DS.Kh hn)))))))))) Lt.ok (by kernel_rfl)
abbrev BX.kr (r:Ck.T) (t1:Int) (k0:CK) (k1:CT):R2 Int CK CT:=r.1 (((),t1,()),(k0,k1,()))
abbrev ID.kr (r:Ck.T) (n:Int) (k0:CK) (k1:CT):R2 Int CK CT:=r.2.1 (((),n,()),(k0,k1,()))
abbrev KO.kr (r:Ck.T) (x:Dop.Aa) (n:Int) (k0:CK) (k1:CT):R2 Int CK CT:=r.2.2.1 (((),x,n,()),(k0,k1,()))
abbrev Dj.kr (r:Ck.T) (k1:CK) (k2:CT) (b3:Dop.Aa):Option ((Int×Unit)×((Unit×Unit)×CK×CT×(Dop.Aa×Unit)×Unit)):=r.2.2.2.1 (((),(),()),(((),()),k1,k2,(b3,()),()))
abbrev Kk.T:Type:=Int→CK→CT→Dop.Aa→R2 Int CK CT
abbrev Kl.T:Type:=Int→Int→CK→CT→Dop.Aa→R2 Int CK CT
abbrev BX.KT:Type:=Kk.T×Kl.T×Unit
def Kk.kB (rK:Ck.T) (tK:BX.KT):Kk.T:=fun t1 k0 k1 b3=>
 let A1:=Bi.k b3.kind ((-1)) ((-1)) ((-1)) ((-1)) 0 [] k0 k1
 let z1:R2 Int CK CT:=
 A1.bind Bp
 ci (b3.kind=35) (ci (k0.GA=0) ((Ac.k 9 t1 k0 k1).bind fun y4=>
 BR y4.1.1.n y4.2.1 y4.2.2.1)<|
 ci (b3.kind=36) (ci (k0.loops=0) ((Ac.k 9 t1 k0 k1).bind fun y6=>
 BR y6.1.1.n y6.2.1 y6.2.2.1)<|
 A1.bind Bp)<|
 z1)<|
 ci (b3.kind=36) (ci (k0.loops=0) ((Ac.k 9 t1 k0 k1).bind fun y5=>
 BR y5.1.1.n y5.2.1 y5.2.2.1)<|
 z1)<|
 A1.bind Bp
def Kl.kB (rK:Ck.T) (tK:BX.KT):Kl.T:=fun t1 t27 k0 k1 b3=>
 let A2:=(KO.kr rK b3 t1 k0 k1).bind Bp
 let A1:=BF k0.labels b3.text ((AL k0.labels b3.text).getD (0:Int)+1)
 let z1:R2 Int CK CT:=
 ci (t27=43) (ck (room 8 (k0.names.length+1))<|
 (Dj.kr rK ((CK.B5 k0 (k0.names++([]:List (List UInt8×Dop.B3))::[]))) k1 b3).bind fun y9=>
 ck (Av (I (CK.names y9.2.2.1).length -1))<|
 ck (0≤I (CK.names y9.2.2.1).length -1∧I (CK.names y9.2.2.1).length -1≤I (CK.names y9.2.2.1).length)<|
 BR y9.1.1 (CK.B5 y9.2.2.1 (List.take (I (CK.names y9.2.2.1).length -1).toNat (CK.names y9.2.2.1))) y9.2.2.2.1)<|
 ci (t27=45) ((Lt.k b3 t1 k0 k1).bind Bp)<|
 (Bi.k 44 ((-1)) ((-1)) ((-1)) ((-1)) 0 [] k0 k1).bind Bp
 ci (t27=37) ((Ls.k b3 t1 k0 k1).bind Bp)<|
 ci (t27=38) (ci (!(AL k0.gotos b3.text).isSome) ((Bi.k 38 ((-1)) ((-1)) ((-1)) ((-1)) 0 b3.text ((CK.Ya k0 (BF k0.gotos b3.text t1))) k1).bind Bp)<|
 (Bi.k 38 ((-1)) ((-1)) ((-1)) ((-1)) 0 b3.text k0 k1).bind Bp)<|
 ci (t27=39) (ck (Av ((AL k0.labels b3.text).getD (0:Int)+1))<|
 ci (1<(AL A1 b3.text).getD 0) ((Ac.k 9 t1 ((CK.QD k0 A1)) k1).bind fun y6=>
 BR y6.1.1.n y6.2.1 y6.2.2.1)<|
 (BX.kr rK b3.a ((CK.QD k0 A1)) k1).bind fun y6=>
 (Bi.k 39 y6.1.1 ((-1)) ((-1)) ((-1)) 0 b3.text y6.2.1 y6.2.2.1).bind Bp)<|
 ci (t27=40) ((CR.k b3.a k0 k1).bind fun y6=>
 ck (room 8 ((CK.A8 y6.2.1).length+1))<|
 ck (Av (CK.GA y6.2.1+1))<|
 (BX.kr rK b3.b ((CK.KH (CK.Gc y6.2.1 (CK.A8 y6.2.1++([]:List (Int×Int))::[])) (CK.GA y6.2.1+1))) y6.2.2.1).bind fun y7=>
 ck (Av (CK.GA y7.2.1 -1))<|
 ck (Av (I (CK.A8 y7.2.1).length -1))<|
 ck (0≤I (CK.A8 y7.2.1).length -1∧I (CK.A8 y7.2.1).length -1≤I (CK.A8 y7.2.1).length)<|
 (Bi.k 40 y6.1.1.n y7.1.1 ((-1)) ((-1)) 0 [] ((CK.KH (CK.Gc y7.2.1 (List.take (I (CK.A8 y7.2.1).length -1).toNat (CK.A8 y7.2.1))) (CK.GA y7.2.1 -1))) y7.2.2.1).bind Bp)<|
 ci (t27=41) (ci (t27=41) A2<|
 z1)<|
 ci (t27=42) A2<|
 z1
def BX.kS (rK:Ck.T) (tK:BX.KT):BX.KT:=(Kk.kB rK tK,Kl.kB rK tK,())
def BX.kL (rK:Ck.T) (n:Nat):BX.KT:=Eu (BX.kS rK) n
def BX.k0 (rK:Ck.T) (tK:BX.KT) (t1:Int) (k0:CK) (k1:CT):R2 Int CK CT:=
 (Md.k t1 k0 k1).bind fun y2=>
 ci (!(CK.e y2.2.1=0)) (BR (-1) y2.2.1 y2.2.2.1)<|
 ci (y2.1.1.kind=30) ((I0.k y2.1.1.a y2.2.1 y2.2.2.1).bind fun y5=>
 (Bi.k 30 y5.1.1 ((-1)) ((-1)) ((-1)) 0 [] y5.2.1 y5.2.2.1).bind Bp)<|
 ci (y2.1.1.kind=31) ((CR.k y2.1.1.a y2.2.1 y2.2.2.1).bind fun y6=>
 (BX.kr rK y2.1.1.b y6.2.1 y6.2.2.1).bind fun y7=>
 ci (0≤y2.1.1.c) ((BX.kr rK y2.1.1.c y7.2.1 y7.2.2.1).bind fun y9=>
 (Bi.k 31 y6.1.1.n y7.1.1 y9.1.1 ((-1)) 0 [] y9.2.1 y9.2.2.1).bind Bp)<|
 (Bi.k 31 y6.1.1.n y7.1.1 ((-1)) ((-1)) 0 [] y7.2.1 y7.2.2.1).bind Bp)<|
 ci (y2.1.1.kind=32) ((CR.k y2.1.1.a y2.2.1 y2.2.2.1).bind fun y7=>
 (ID.kr rK y2.1.1.b y7.2.1 y7.2.2.1).bind fun y8=>
 (Bi.k 32 y7.1.1.n y8.1.1 ((-1)) ((-1)) 0 [] y8.2.1 y8.2.2.1).bind Bp)<|
 ci (y2.1.1.kind=33) ((ID.kr rK y2.1.1.b y2.2.1 y2.2.2.1).bind fun y8=>
 (CR.k y2.1.1.a y8.2.1 y8.2.2.1).bind fun y9=>
 (Bi.k 33 y9.1.1.n y8.1.1 ((-1)) ((-1)) 0 [] y9.2.1 y9.2.2.1).bind Bp)<|
 ci (y2.1.1.kind=34) ((I0.k y2.1.1.a y2.2.1 y2.2.2.1).bind fun y9=>
 ci (0≤y2.1.1.b) ((CR.k y2.1.1.b y9.2.1 y9.2.2.1).bind fun y11=>
 (I0.k y2.1.1.c y11.2.1 y11.2.2.1).bind fun y12=>
 (ID.kr rK y2.1.1.d y12.2.1 y12.2.2.1).bind fun y13=>
 (Bi.k 34 y9.1.1 y11.1.1.n y12.1.1 y13.1.1 0 [] y13.2.1 y13.2.2.1).bind Bp)<|
 (I0.k y2.1.1.c y9.2.1 y9.2.2.1).bind fun y11=>
 (ID.kr rK y2.1.1.d y11.2.1 y11.2.2.1).bind fun y12=>
 (Bi.k 34 y9.1.1 ((-1)) y11.1.1 y12.1.1 0 [] y12.2.1 y12.2.2.1).bind Bp)<|
 ci (y2.1.1.kind=35) (ci (y2.1.1.kind=35) (tK.1 t1 y2.2.1 y2.2.2.1 y2.1.1)<|
 tK.2.1 t1 y2.1.1.kind y2.2.1 y2.2.2.1 y2.1.1)<|
 ci (y2.1.1.kind=36) (tK.1 t1 y2.2.1 y2.2.2.1 y2.1.1)<|
 tK.2.1 t1 y2.1.1.kind y2.2.1 y2.2.2.1 y2.1.1
def BX.kf (rK:Ck.T) (t1:Int) (k0:CK) (k1:CT):R2 Int CK CT:=BX.k0 rK (BX.kL rK 1000000) t1 k0 k1
def ID.kf (rK:Ck.T) (n:Int) (k0:CK) (k1:CT):R2 Int CK CT:=
 ck (Av (k0.loops+1))<|
 ck (Av (k0.GA+1))<|
 (BX.kr rK n ((CK.KH (CK.Hd k0 (k0.loops+1)) (k0.GA+1))) k1).bind fun y2=>
 ck (Av (CK.loops y2.2.1 -1))<|
 ck (Av (CK.GA y2.2.1 -1))<|
 BR y2.1.1 (CK.KH (CK.Hd y2.2.1 (CK.loops y2.2.1 -1)) (CK.GA y2.2.1 -1)) y2.2.2.1
def KO.kf (rK:Ck.T) (x:Dop.Aa) (n:Int) (k0:CK) (k1:CT):R2 Int CK CT:=
 let A1:=Av (I k0.A8.length -1)
 ci (x.kind=41) ((Hh.k x.n).bind fun y3=>
 ci (I k0.A8.length=0) ((Ac.k 9 n k0 k1).bind fun y5=>
 BR y5.1.1.n y5.2.1 y5.2.2.1)<|
 ck A1<|
 ck (0≤I k0.A8.length -1∧I k0.A8.length -1<I k0.A8.length)<|
 ck ((I k0.A8.length -1).toNat<k0.A8.length)<|
 ck ((I k0.A8.length -1).toNat<k0.A8.length)<|
 ck (Av ((DF (List.getD k0.A8 (I k0.A8.length -1).toNat (([]:List (Int×Int)))) y3.1.1).getD (0:Int)+1))<|
 ck ((I k0.A8.length -1).toNat<k0.A8.length)<|
 ck ((I k0.A8.length -1).toNat<(k0.A8.set (I k0.A8.length -1).toNat (Da (List.getD k0.A8 (I k0.A8.length -1).toNat (([]:List (Int×Int)))) y3.1.1 ((DF (List.getD k0.A8 (I k0.A8.length -1).toNat (([]:List (Int×Int)))) y3.1.1).getD (0:Int)+1))).length)<|
 ci (1<(DF ((k0.A8.set (I k0.A8.length -1).toNat (Da (List.getD k0.A8 (I k0.A8.length -1).toNat (([]:List (Int×Int)))) y3.1.1 ((DF (List.getD k0.A8 (I k0.A8.length -1).toNat (([]:List (Int×Int)))) y3.1.1).getD (0:Int)+1))).getD (I k0.A8.length -1).toNat (([]:List (Int×Int)))) y3.1.1).getD 0) ((Ac.k 9 n ((CK.Gc k0 (k0.A8.set (I k0.A8.length -1).toNat (Da (List.getD k0.A8 (I k0.A8.length -1).toNat (([]:List (Int×Int)))) y3.1.1 ((DF (List.getD k0.A8 (I k0.A8.length -1).toNat (([]:List (Int×Int)))) y3.1.1).getD (0:Int)+1))))) k1).bind fun y6=>
 BR y6.1.1.n y6.2.1 y6.2.2.1)<|
 ci (x.kind=42) ((BX.kr rK x.a ((CK.Gc k0 (k0.A8.set (I k0.A8.length -1).toNat (Da (List.getD k0.A8 (I k0.A8.length -1).toNat (([]:List (Int×Int)))) y3.1.1 ((DF (List.getD k0.A8 (I k0.A8.length -1).toNat (([]:List (Int×Int)))) y3.1.1).getD (0:Int)+1))))) k1).bind fun y7=>
 (Bi.k x.kind y7.1.1 ((-1)) ((-1)) ((-1)) 0 [] y7.2.1 y7.2.2.1).bind Bp)<|
 (BX.kr rK x.a ((CK.Gc k0 (k0.A8.set (I k0.A8.length -1).toNat (Da (List.getD k0.A8 (I k0.A8.length -1).toNat (([]:List (Int×Int)))) y3.1.1 ((DF (List.getD k0.A8 (I k0.A8.length -1).toNat (([]:List (Int×Int)))) y3.1.1).getD (0:Int)+1))))) k1).bind fun y7=>
 (Bi.k x.kind y7.1.1 ((-1)) ((-1)) ((-1)) y3.1.1 [] y7.2.1 y7.2.2.1).bind Bp)<|
 ci (I k0.A8.length=0) ((Ac.k 9 n k0 k1).bind fun y4=>
 BR y4.1.1.n y4.2.1 y4.2.2.1)<|
 ck A1<|
 ck (0≤I k0.A8.length -1∧I k0.A8.length -1<I k0.A8.length)<|
 ck ((I k0.A8.length -1).toNat<k0.A8.length)<|
 ck ((I k0.A8.length -1).toNat<k0.A8.length)<|
 ck (Av ((DF (List.getD k0.A8 (I k0.A8.length -1).toNat (([]:List (Int×Int)))) 1099511627776).getD (0:Int)+1))<|
 ck ((I k0.A8.length -1).toNat<k0.A8.length)<|
 ck ((I k0.A8.length -1).toNat<(k0.A8.set (I k0.A8.length -1).toNat (Da (List.getD k0.A8 (I k0.A8.length -1).toNat (([]:List (Int×Int)))) 1099511627776 ((DF (List.getD k0.A8 (I k0.A8.length -1).toNat (([]:List (Int×Int)))) 1099511627776).getD (0:Int)+1))).length)<|
 ci (1<(DF ((k0.A8.set (I k0.A8.length -1).toNat (Da (List.getD k0.A8 (I k0.A8.length -1).toNat (([]:List (Int×Int)))) 1099511627776 ((DF (List.getD k0.A8 (I k0.A8.length -1).toNat (([]:List (Int×Int)))) 1099511627776).getD (0:Int)+1))).getD (I k0.A8.length -1).toNat (([]:List (Int×Int)))) 1099511627776).getD 0) ((Ac.k 9 n ((CK.Gc k0 (k0.A8.set (I k0.A8.length -1).toNat (Da (List.getD k0.A8 (I k0.A8.length -1).toNat (([]:List (Int×Int)))) 1099511627776 ((DF (List.getD k0.A8 (I k0.A8.length -1).toNat (([]:List (Int×Int)))) 1099511627776).getD (0:Int)+1))))) k1).bind fun y5=>
 BR y5.1.1.n y5.2.1 y5.2.2.1)<|
 ci (x.kind=42) ((BX.kr rK x.a ((CK.Gc k0 (k0.A8.set (I k0.A8.length -1).toNat (Da (List.getD k0.A8 (I k0.A8.length -1).toNat (([]:List (Int×Int)))) 1099511627776 ((DF (List.getD k0.A8 (I k0.A8.length -1).toNat (([]:List (Int×Int)))) 1099511627776).getD (0:Int)+1))))) k1).bind fun y6=>
 (Bi.k x.kind y6.1.1 ((-1)) ((-1)) ((-1)) 0 [] y6.2.1 y6.2.2.1).bind Bp)<|
 (BX.kr rK x.a ((CK.Gc k0 (k0.A8.set (I k0.A8.length -1).toNat (Da (List.getD k0.A8 (I k0.A8.length -1).toNat (([]:List (Int×Int)))) 1099511627776 ((DF (List.getD k0.A8 (I k0.A8.length -1).toNat (([]:List (Int×Int)))) 1099511627776).getD (0:Int)+1))))) k1).bind fun y6=>
 (Bi.k x.kind y6.1.1 ((-1)) ((-1)) ((-1)) 1099511627776 [] y6.2.1 y6.2.2.1).bind Bp
abbrev OF.T:Type:=List Int→List Int→Int→Int→CK→CT→Dop.Aa→Option ((Int×Unit)×((Unit×Unit)×CK×CT×(Dop.Aa×Unit)×Unit))
abbrev Dj.KT:Type:=OF.T×Unit
def OF.kB (rK:Ck.T) (tK:Dj.KT):OF.T:=fun l t12 t13 t14 k1 k2 b3=>
 ci (t14<t13) (ck (0≤t14∧t14<I t12.length)<|
 ck (t14.toNat<t12.length)<|
 (BX.kr rK (List.getD t12 t14.toNat 0) k1 k2).bind fun y3=>
 ck (Cj none (room 8 (l.length+(y3.1.1::[]).length)))<|
 ck (Av (t14+1))<|
 tK.1 (l++y3.1.1::[]) t12 t13 (t14+1) y3.2.1 y3.2.2.1 b3)<|
 (AX.k l k1 k2).bind fun y3=>
 (Bi.k 43 y3.1.1 ((-1)) ((-1)) ((-1)) 0 [] y3.2.1 y3.2.2.1).bind fun y4=>
 some ((y4.1.1,()),(((),()),(y4.2.1,(y4.2.2.1,((b3,()),())))))
def Dj.kS (rK:Ck.T) (tK:Dj.KT):Dj.KT:=(OF.kB rK tK,())
def Dj.kL (rK:Ck.T) (n:Nat):Dj.KT:=Eu (Dj.kS rK) n
def Dj.k0 (rK:Ck.T) (tK:Dj.KT) (k1:CK) (k2:CT) (b3:Dop.Aa):Option ((Int×Unit)×((Unit×Unit)×CK×CT×(Dop.Aa×Unit)×Unit)):=
 (F5.k k1.t b3.a).bind fun y2=>
 tK.1 [] y2.1.1 (I y2.1.1.length) 0 k1 k2 b3
def Dj.kf (rK:Ck.T) (k1:CK) (k2:CT) (b3:Dop.Aa):Option ((Int×Unit)×((Unit×Unit)×CK×CT×(Dop.Aa×Unit)×Unit)):=Dj.k0 rK (Dj.kL rK 1000000) k1 k2 b3
def Ck.kS (r:Ck.T):Ck.T:=(fun x=>BX.kf r x.1.2.1 x.2.1 x.2.2.1,fun x=>ID.kf r x.1.2.1 x.2.1 x.2.2.1,fun x=>KO.kf r x.1.2.1 x.1.2.2.1 x.2.1 x.2.2.1,fun x=>Dj.kf r x.2.2.1 x.2.2.2.1 x.2.2.2.2.1.1,())
def Ck.kR (n:Nat):Ck.T:=Eu Ck.kS n
def BX.Kc (n:Nat):=kd 135 BX.p (Ck.kR n).1
def BX.QZ:=BX.Kc FU
def BX.k:=BX.kr (Ck.kR FU)
def ID.Kc (n:Nat):=kd 168 ID.p (Ck.kR n).2.1
def KO.Kc (n:Nat):=kd 170 KO.p (Ck.kR n).2.2.1
def Dj.Kc (n:Nat):=kd 172 Dj.p (Ck.kR n).2.2.2.1
def Ck.UJ (n:Nat):List (Bw Dop.D4):=[BX.Kc n,ID.Kc n,KO.Kc n,Dj.Kc n]
theorem Ck.Gg: ∀ n,(BX.Kc n).Holds prog∧(ID.Kc n).Holds prog∧(KO.Kc n).Holds prog∧(Dj.Kc n).Holds prog∧True
 | 0=>⟨Ae AJ BX.ok,Ae AJ ID.ok,Ae AJ KO.ok,Ae AJ Dj.ok,trivial⟩
 | n+1=>by
  obtain ⟨h0,h1,h2,h3,_⟩:=Ck.Gg n
  have hh: ∀ c∈Ck.UJ n,c.Holds prog:=(hc h0 (hc h1 (hc h2 (hc h3 hn))))
  exact ⟨GG AJ (BA hh (hc Md.Kh (hc I0.Kh (hc Bi.Kh (hc CR.J1 (hc Ac.Kh (hc Ls.Kh (hc Lt.Kh hn)))))))) BX.ok (fun t x=>BX.k0 (Ck.kR n) t x.1.2.1 x.2.1 x.2.2.1) (fun c=>(fun t1 k0 k1 b3=>c 27 BX.iB rfl ((t1,(),(),()),(k0,k1,((),()),(b3,()),())),fun t1 t27 k0 k1 b3=>c 30 BX.iC rfl ((t1,(),(),t27,()),(k0,k1,((),()),(b3,()),())),())) (BX.kS (Ck.kR n)) (by kernel_rfl),
   kh AJ (BA hh hn) ID.ok (by kernel_rfl),
   kh AJ (BA hh (hc Hh.Kh (hc Ac.Kh (hc Bi.Kh hn)))) KO.ok (by kernel_rfl),
   GG AJ (BA hh (hc F5.Kh (hc AX.Kh (hc Bi.Kh hn)))) Dj.ok (fun t x=>Dj.k0 (Ck.kR n) t x.2.2.1 x.2.2.2.1 x.2.2.2.2.1.1) (fun c=>(fun l t12 t13 t14 k1 k2 b3=>c 3 Dj.q3 rfl (((),l,t12,t13,t14,()),(((),()),k1,k2,(b3,()),())),())) (Dj.kS (Ck.kR n)) (by kernel_rfl),
   trivial⟩
theorem BX.J1:BX.QZ.Holds prog:=(Ck.Gg FU).1
end
end Go.Proofs.Tryz
