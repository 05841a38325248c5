/-
 Functions in plain words (what their equations say), and their contracts. Written by a program.
-/
import Derived.Test.YtikecakpcfpghaaGreatDoorTwL
import Derived.Test.YtikecakpcfpghaaGreatDoorMo
set_option linter.all false
set_option maxRecDepth 100000
set_option maxHeartbeats 4000000
namespace Go.Proofs.Tryz
open Go Go.En
noncomputable section
def IY.k (t1:List UInt8) (t2 t3:Int) (t4:Bool) (k0:CK) (k1:CT):WS Dop.CD Bool CK CT:=
 let A4:=BD (k0.f.Al+(1:Int) -1)
 let A3:=Dop.Dc.mk k0.f.name k0.f.params (k0.f.Al+1) k0.f.frame k0.f.body
 let A2:=Dop.CD.mk 2 (k0.f.Al+(1:Int) -1) t2
 let A1:=Dop.CD.mk 3 k0.f.frame t2
 let F3:lh Dop.AZ (List Dop.AZ×List Dop.HC×Int×Unit×List Int×List Dop.Dc×List Dop.ML×Int×List Dop.AZ×Unit×List (List UInt8×Dop.N8)×List (List UInt8×Int)×List UInt8×Int×Int×Int×Int×Int×List (List UInt8×Int)×List (List UInt8×Int)×Int×List (List (Int×Int))×Int×Int×Int×Unit) CT (List (List (List UInt8×Dop.CD))×Unit)->WS Dop.CD Bool CK CT:=fun y9=>
 Rf (Dop.CD.mk 0 0 0) false (Dop.HA.mk y9.2.1.1 y9.2.1.2.1 y9.2.1.2.2.1,(),y9.2.1.2.2.2.2.1,y9.2.1.2.2.2.2.2.1,y9.2.1.2.2.2.2.2.2.1,y9.2.1.2.2.2.2.2.2.2.1,y9.2.1.2.2.2.2.2.2.2.2.1,y9.2.2.2.1.1,y9.2.1.2.2.2.2.2.2.2.2.2.2.1,y9.2.1.2.2.2.2.2.2.2.2.2.2.2.1,Dop.Dc.mk y9.2.1.2.2.2.2.2.2.2.2.2.2.2.2.1 y9.2.1.2.2.2.2.2.2.2.2.2.2.2.2.2.1 y9.2.1.2.2.2.2.2.2.2.2.2.2.2.2.2.2.1 y9.2.1.2.2.2.2.2.2.2.2.2.2.2.2.2.2.2.1 y9.2.1.2.2.2.2.2.2.2.2.2.2.2.2.2.2.2.2.1,y9.2.1.2.2.2.2.2.2.2.2.2.2.2.2.2.2.2.2.2.1,y9.2.1.2.2.2.2.2.2.2.2.2.2.2.2.2.2.2.2.2.2.1,y9.2.1.2.2.2.2.2.2.2.2.2.2.2.2.2.2.2.2.2.2.2.1,y9.2.1.2.2.2.2.2.2.2.2.2.2.2.2.2.2.2.2.2.2.2.2.1,y9.2.1.2.2.2.2.2.2.2.2.2.2.2.2.2.2.2.2.2.2.2.2.2.1,y9.2.1.2.2.2.2.2.2.2.2.2.2.2.2.2.2.2.2.2.2.2.2.2.2.1,8,y9.1.1.at_,()) y9.2.2.1
 let F2:lh Dop.AZ (List Dop.AZ×List Dop.HC×Int×Unit×List Int×List Dop.Dc×List Dop.ML×Int×List Dop.AZ×Unit×List (List UInt8×Dop.N8)×List (List UInt8×Int)×List UInt8×Int×Int×Int×Int×Int×List (List UInt8×Int)×List (List UInt8×Int)×Int×List (List (Int×Int))×Int×Int×Int×Unit) CT (List (List (List UInt8×Dop.CD))×Unit)->WS Dop.CD Bool CK CT:=fun y11=>
 ck ((I k0.names.length -1).toNat<y11.2.2.2.1.1.length)<|
 Rf (Dop.CD.mk 2 0 t2) (decide ((4:Int)=0)) (Dop.HA.mk y11.2.1.1 y11.2.1.2.1 y11.2.1.2.2.1,(),y11.2.1.2.2.2.2.1,y11.2.1.2.2.2.2.2.1,y11.2.1.2.2.2.2.2.2.1,y11.2.1.2.2.2.2.2.2.2.1,y11.2.1.2.2.2.2.2.2.2.2.1,y11.2.2.2.1.1.set (I k0.names.length -1).toNat (B4 (List.getD y11.2.2.2.1.1 (I k0.names.length -1).toNat (([]:List (List UInt8×Dop.CD)))) t1 (Dop.CD.mk 2 0 t2)),y11.2.1.2.2.2.2.2.2.2.2.2.2.1,y11.2.1.2.2.2.2.2.2.2.2.2.2.2.1,Dop.Dc.mk y11.2.1.2.2.2.2.2.2.2.2.2.2.2.2.1 y11.2.1.2.2.2.2.2.2.2.2.2.2.2.2.2.1 y11.2.1.2.2.2.2.2.2.2.2.2.2.2.2.2.2.1 y11.2.1.2.2.2.2.2.2.2.2.2.2.2.2.2.2.2.1 y11.2.1.2.2.2.2.2.2.2.2.2.2.2.2.2.2.2.2.1,y11.2.1.2.2.2.2.2.2.2.2.2.2.2.2.2.2.2.2.2.1,y11.2.1.2.2.2.2.2.2.2.2.2.2.2.2.2.2.2.2.2.2.1,y11.2.1.2.2.2.2.2.2.2.2.2.2.2.2.2.2.2.2.2.2.2.1,y11.2.1.2.2.2.2.2.2.2.2.2.2.2.2.2.2.2.2.2.2.2.2.1,y11.2.1.2.2.2.2.2.2.2.2.2.2.2.2.2.2.2.2.2.2.2.2.2.1,y11.2.1.2.2.2.2.2.2.2.2.2.2.2.2.2.2.2.2.2.2.2.2.2.2.1,4,y11.1.1.at_,()) y11.2.2.1
 let F1:lh Dop.AZ (List Dop.AZ×List Dop.HC×Int×Unit×List Int×List Dop.Dc×List Dop.ML×Int×List Dop.AZ×Unit×List (List UInt8×Dop.N8)×List (List UInt8×Int)×List UInt8×Int×Int×Int×Int×Int×List (List UInt8×Int)×List (List UInt8×Int)×Int×List (List (Int×Int))×Int×Int×Int×Unit) CT (List (List (List UInt8×Dop.CD))×Unit)->WS Dop.CD Bool CK CT:=fun y10=>
 ck ((I k0.names.length -1).toNat<y10.2.2.2.1.1.length)<|
 Rf A1 (decide ((4:Int)=0)) (Dop.HA.mk y10.2.1.1 y10.2.1.2.1 y10.2.1.2.2.1,(),y10.2.1.2.2.2.2.1,y10.2.1.2.2.2.2.2.1,y10.2.1.2.2.2.2.2.2.1,y10.2.1.2.2.2.2.2.2.2.1,y10.2.1.2.2.2.2.2.2.2.2.1,y10.2.2.2.1.1.set (I k0.names.length -1).toNat (B4 (List.getD y10.2.2.2.1.1 (I k0.names.length -1).toNat (([]:List (List UInt8×Dop.CD)))) t1 A1),y10.2.1.2.2.2.2.2.2.2.2.2.2.1,y10.2.1.2.2.2.2.2.2.2.2.2.2.2.1,Dop.Dc.mk y10.2.1.2.2.2.2.2.2.2.2.2.2.2.2.1 y10.2.1.2.2.2.2.2.2.2.2.2.2.2.2.2.1 y10.2.1.2.2.2.2.2.2.2.2.2.2.2.2.2.2.1 y10.2.1.2.2.2.2.2.2.2.2.2.2.2.2.2.2.2.1 y10.2.1.2.2.2.2.2.2.2.2.2.2.2.2.2.2.2.2.1,y10.2.1.2.2.2.2.2.2.2.2.2.2.2.2.2.2.2.2.2.1,y10.2.1.2.2.2.2.2.2.2.2.2.2.2.2.2.2.2.2.2.2.1,y10.2.1.2.2.2.2.2.2.2.2.2.2.2.2.2.2.2.2.2.2.2.1,y10.2.1.2.2.2.2.2.2.2.2.2.2.2.2.2.2.2.2.2.2.2.2.1,y10.2.1.2.2.2.2.2.2.2.2.2.2.2.2.2.2.2.2.2.2.2.2.2.1,y10.2.1.2.2.2.2.2.2.2.2.2.2.2.2.2.2.2.2.2.2.2.2.2.2.1,4,y10.1.1.at_,()) y10.2.2.1
 (Bf.k t2 k1).bind fun y2=>
 ck (BD (I k0.names.length -1))<|
 ck (0<=I k0.names.length -1/\I k0.names.length -1<I k0.names.length)<|
 ck ((I k0.names.length -1).toNat<k0.names.length)<|
 ck ((I k0.names.length -1).toNat<k0.names.length)<|
 ci ((AM (List.getD k0.names (I k0.names.length -1).toNat (([]:List (List UInt8×Dop.CD)))) t1).isSome) (ci (k0.e=0) ((Hp.k t3 k0.t k0.num k0.funcs k0.globals k0.top k0.nodes k0.sigs k0.taken k0.f k0.DI k0.labels k0.gotos k0.loops k0.MH k0.LP k0.e k0.when y2.2.1 k0.names).bind fun y5=>
 Rf (Dop.CD.mk 0 0 0) false (Dop.HA.mk y5.2.1.1 y5.2.1.2.1 y5.2.1.2.2.1,(),y5.2.1.2.2.2.2.1,y5.2.1.2.2.2.2.2.1,y5.2.1.2.2.2.2.2.2.1,y5.2.1.2.2.2.2.2.2.2.1,y5.2.1.2.2.2.2.2.2.2.2.1,y5.2.2.2.1.1,y5.2.1.2.2.2.2.2.2.2.2.2.2.1,y5.2.1.2.2.2.2.2.2.2.2.2.2.2.1,Dop.Dc.mk y5.2.1.2.2.2.2.2.2.2.2.2.2.2.2.1 y5.2.1.2.2.2.2.2.2.2.2.2.2.2.2.2.1 y5.2.1.2.2.2.2.2.2.2.2.2.2.2.2.2.2.1 y5.2.1.2.2.2.2.2.2.2.2.2.2.2.2.2.2.2.1 y5.2.1.2.2.2.2.2.2.2.2.2.2.2.2.2.2.2.2.1,y5.2.1.2.2.2.2.2.2.2.2.2.2.2.2.2.2.2.2.2.1,y5.2.1.2.2.2.2.2.2.2.2.2.2.2.2.2.2.2.2.2.2.1,y5.2.1.2.2.2.2.2.2.2.2.2.2.2.2.2.2.2.2.2.2.2.1,y5.2.1.2.2.2.2.2.2.2.2.2.2.2.2.2.2.2.2.2.2.2.2.1,y5.2.1.2.2.2.2.2.2.2.2.2.2.2.2.2.2.2.2.2.2.2.2.2.1,y5.2.1.2.2.2.2.2.2.2.2.2.2.2.2.2.2.2.2.2.2.2.2.2.2.1,7,y5.1.1.at_,()) y5.2.2.1)<|
 Rf (Dop.CD.mk 0 0 0) false k0 y2.2.1)<|
 ci (!y2.1.2.1) (ci (k0.e=0) ((Hp.k t3 k0.t k0.num k0.funcs k0.globals k0.top k0.nodes k0.sigs k0.taken k0.f k0.DI k0.labels k0.gotos k0.loops k0.MH k0.LP k0.e k0.when y2.2.1 k0.names).bind F3)<|
 Rf (Dop.CD.mk 0 0 0) false k0 y2.2.1)<|
 ci t4 ((DZ.k t2 y2.2.1).bind fun y6=>
 ci (!y6.1.1) (ci (k0.e=0) ((Hp.k t3 k0.t k0.num k0.funcs k0.globals k0.top k0.nodes k0.sigs k0.taken k0.f k0.DI k0.labels k0.gotos k0.loops k0.MH k0.LP k0.e k0.when y6.2.1 k0.names).bind F3)<|
 Rf (Dop.CD.mk 0 0 0) false k0 y6.2.1)<|
 (DZ.k t2 y6.2.1).bind fun y8=>
 let z1:WS Dop.CD Bool CK CT:=
 let z2:WS Dop.CD Bool CK CT:=
 ck ((I k0.names.length -1).toNat<k0.names.length)<|
 Rf A1 (decide (k0.e=0)) (CK.Y9 (CK.CV k0 (k0.names.set (I k0.names.length -1).toNat (B4 (List.getD k0.names (I k0.names.length -1).toNat (([]:List (List UInt8×Dop.CD)))) t1 A1))) (Dop.Dc.mk k0.f.name k0.f.params k0.f.Al (k0.f.frame+y2.1.1) k0.f.body)) y8.2.1
 ck (BD (k0.f.frame+y2.1.1))<|
 ci (4096<k0.f.frame+y2.1.1) (ci (k0.e=0) ((Hp.k t3 k0.t k0.num k0.funcs k0.globals k0.top k0.nodes k0.sigs k0.taken (Dop.Dc.mk k0.f.name k0.f.params k0.f.Al (k0.f.frame+y2.1.1) k0.f.body) k0.DI k0.labels k0.gotos k0.loops k0.MH k0.LP k0.e k0.when y8.2.1 k0.names).bind F1)<|
 z2)<|
 z2
 ci y8.1.1 (ci ((AM k0.taken t1).getD (0:Int)=0) (ci (k0.f.Al=4096) (ci (k0.e=0) ((Hp.k t3 k0.t k0.num k0.funcs k0.globals k0.top k0.nodes k0.sigs k0.taken k0.f k0.DI k0.labels k0.gotos k0.loops k0.MH k0.LP k0.e k0.when y8.2.1 k0.names).bind F2)<|
 ck ((I k0.names.length -1).toNat<k0.names.length)<|
 Rf (Dop.CD.mk 2 0 t2) (decide (k0.e=0)) (CK.CV k0 (k0.names.set (I k0.names.length -1).toNat (B4 (List.getD k0.names (I k0.names.length -1).toNat (([]:List (List UInt8×Dop.CD)))) t1 (Dop.CD.mk 2 0 t2)))) y8.2.1)<|
 ck (BD (k0.f.Al+1))<|
 ck A4<|
 ck ((I k0.names.length -1).toNat<k0.names.length)<|
 Rf A2 (decide (k0.e=0)) (CK.Y9 (CK.CV k0 (k0.names.set (I k0.names.length -1).toNat (B4 (List.getD k0.names (I k0.names.length -1).toNat (([]:List (List UInt8×Dop.CD)))) t1 A2))) A3) y8.2.1)<|
 z1)<|
 z1)<|
 (DZ.k t2 y2.2.1).bind fun y6=>
 let z3:WS Dop.CD Bool CK CT:=
 let z4:WS Dop.CD Bool CK CT:=
 ck ((I k0.names.length -1).toNat<k0.names.length)<|
 Rf A1 (decide (k0.e=0)) (CK.Y9 (CK.CV k0 (k0.names.set (I k0.names.length -1).toNat (B4 (List.getD k0.names (I k0.names.length -1).toNat (([]:List (List UInt8×Dop.CD)))) t1 A1))) (Dop.Dc.mk k0.f.name k0.f.params k0.f.Al (k0.f.frame+y2.1.1) k0.f.body)) y6.2.1
 ck (BD (k0.f.frame+y2.1.1))<|
 ci (4096<k0.f.frame+y2.1.1) (ci (k0.e=0) ((Hp.k t3 k0.t k0.num k0.funcs k0.globals k0.top k0.nodes k0.sigs k0.taken (Dop.Dc.mk k0.f.name k0.f.params k0.f.Al (k0.f.frame+y2.1.1) k0.f.body) k0.DI k0.labels k0.gotos k0.loops k0.MH k0.LP k0.e k0.when y6.2.1 k0.names).bind F1)<|
 z4)<|
 z4
 ci y6.1.1 (ci ((AM k0.taken t1).getD (0:Int)=0) (ci (k0.f.Al=4096) (ci (k0.e=0) ((Hp.k t3 k0.t k0.num k0.funcs k0.globals k0.top k0.nodes k0.sigs k0.taken k0.f k0.DI k0.labels k0.gotos k0.loops k0.MH k0.LP k0.e k0.when y6.2.1 k0.names).bind F2)<|
 ck ((I k0.names.length -1).toNat<k0.names.length)<|
 Rf (Dop.CD.mk 2 0 t2) (decide (k0.e=0)) (CK.CV k0 (k0.names.set (I k0.names.length -1).toNat (B4 (List.getD k0.names (I k0.names.length -1).toNat (([]:List (List UInt8×Dop.CD)))) t1 (Dop.CD.mk 2 0 t2)))) y6.2.1)<|
 ck (BD (k0.f.Al+1))<|
 ck A4<|
 ck ((I k0.names.length -1).toNat<k0.names.length)<|
 Rf A2 (decide (k0.e=0)) (CK.Y9 (CK.CV k0 (k0.names.set (I k0.names.length -1).toNat (B4 (List.getD k0.names (I k0.names.length -1).toNat (([]:List (List UInt8×Dop.CD)))) t1 A2))) A3) y6.2.1)<|
 z3)<|
 z3
def IY.Kc:=kd 41 IY.p fun x=>IY.k x.1.2.1 x.1.2.2.1 x.1.2.2.2.1 x.1.2.2.2.2.1 x.2.1 x.2.2.1
theorem IY.Kh:IY.Kc.Holds prog:=kh AH (hc Bf.Ie (hc DZ.Kh (hc Aw.Kh (hc Hp.Kh hn)))) IY.ok (by kernel_rfl)
abbrev Cj.kr (r:F6.T) (n:Int) (k0:CK) (k1:CT):SH CK CT:=r.1 (((),n,()),(k0,k1,()))
abbrev Pn.T:Type:=Dop.gu->Int->CK->CT->SH CK CT
abbrev Cj.KT:Type:=Pn.T×Unit
def Pn.kB (rK:F6.T) (tK:Cj.KT):Pn.T:=fun t45 t46 k0 k1=>
 ci (t46<4) (ck (0<=t46/\t46<I 4)<|
 ci (0<=(t45.x0::t45.x1::t45.x2::t45.x3::[]).getD t46.toNat 0) ((Cj.kr rK ((t45.x0::t45.x1::t45.x2::t45.x3::[]).getD t46.toNat 0) k0 k1).bind fun y4=>
 ck (BD (t46+1))<|
 tK.1 t45 (t46+1) y4.2.1 y4.2.2.1)<|
 ck (BD (t46+1))<|
 tK.1 t45 (t46+1) k0 k1)<|
 hZ k0 k1
def Cj.kS (rK:F6.T) (tK:Cj.KT):Cj.KT:=(Pn.kB rK tK,())
def Cj.kL (rK:F6.T) (n:Nat):Cj.KT:=C5 (Cj.kS rK) n
def Cj.k0 (rK:F6.T) (tK:Cj.KT) (n:Int) (k0:CK) (k1:CT):SH CK CT:=
 (Cz.k n k0.t k0.num k0.funcs k0.globals k0.top k0.nodes k0.names k0.sigs k0.f k0.DI k0.loops k0.MH k0.LP k0.e k0.when k1).bind fun y2=>
 ci (y2.1.1.kind=3) (ci (y2.1.1.text=(38:UInt8)::[]) ((Cz.k y2.1.1.a (Dop.HA.mk y2.2.1.1 y2.2.1.2.1 y2.2.1.2.2.1) y2.2.1.2.2.2.2.1 y2.2.1.2.2.2.2.2.1 y2.2.1.2.2.2.2.2.2.1 y2.2.1.2.2.2.2.2.2.2.1 y2.2.1.2.2.2.2.2.2.2.2.1 y2.2.1.2.2.2.2.2.2.2.2.2.1 y2.2.1.2.2.2.2.2.2.2.2.2.2.1 (Dop.Dc.mk y2.2.1.2.2.2.2.2.2.2.2.2.2.2.2.1 y2.2.1.2.2.2.2.2.2.2.2.2.2.2.2.2.1 y2.2.1.2.2.2.2.2.2.2.2.2.2.2.2.2.2.1 y2.2.1.2.2.2.2.2.2.2.2.2.2.2.2.2.2.2.1 y2.2.1.2.2.2.2.2.2.2.2.2.2.2.2.2.2.2.2.1) y2.2.1.2.2.2.2.2.2.2.2.2.2.2.2.2.2.2.2.2.1 y2.2.1.2.2.2.2.2.2.2.2.2.2.2.2.2.2.2.2.2.2.2.2.1 y2.2.1.2.2.2.2.2.2.2.2.2.2.2.2.2.2.2.2.2.2.2.2.2.1 y2.2.1.2.2.2.2.2.2.2.2.2.2.2.2.2.2.2.2.2.2.2.2.2.2.1 y2.2.1.2.2.2.2.2.2.2.2.2.2.2.2.2.2.2.2.2.2.2.2.2.2.2.1 y2.2.1.2.2.2.2.2.2.2.2.2.2.2.2.2.2.2.2.2.2.2.2.2.2.2.2.1 y2.2.2.1).bind fun y5=>
 ci (y5.1.1.kind=2) ((Cz.k y2.1.1.a (Dop.HA.mk y5.2.1.1 y5.2.1.2.1 y5.2.1.2.2.1) y5.2.1.2.2.2.2.1 y5.2.1.2.2.2.2.2.1 y5.2.1.2.2.2.2.2.2.1 y5.2.1.2.2.2.2.2.2.2.1 y5.2.1.2.2.2.2.2.2.2.2.1 y5.2.1.2.2.2.2.2.2.2.2.2.1 y5.2.1.2.2.2.2.2.2.2.2.2.2.1 (Dop.Dc.mk y5.2.1.2.2.2.2.2.2.2.2.2.2.2.2.1 y5.2.1.2.2.2.2.2.2.2.2.2.2.2.2.2.1 y5.2.1.2.2.2.2.2.2.2.2.2.2.2.2.2.2.1 y5.2.1.2.2.2.2.2.2.2.2.2.2.2.2.2.2.2.1 y5.2.1.2.2.2.2.2.2.2.2.2.2.2.2.2.2.2.2.1) y5.2.1.2.2.2.2.2.2.2.2.2.2.2.2.2.2.2.2.2.1 y5.2.1.2.2.2.2.2.2.2.2.2.2.2.2.2.2.2.2.2.2.2.2.1 y5.2.1.2.2.2.2.2.2.2.2.2.2.2.2.2.2.2.2.2.2.2.2.2.1 y5.2.1.2.2.2.2.2.2.2.2.2.2.2.2.2.2.2.2.2.2.2.2.2.2.1 y5.2.1.2.2.2.2.2.2.2.2.2.2.2.2.2.2.2.2.2.2.2.2.2.2.2.1 y5.2.1.2.2.2.2.2.2.2.2.2.2.2.2.2.2.2.2.2.2.2.2.2.2.2.2.1 y5.2.2.1).bind fun y7=>
 ck (BD ((AM k0.taken y7.1.1.text).getD (0:Int)+1))<|
 tK.1 (Dop.gu.mk y2.1.1.a y2.1.1.b y2.1.1.c y2.1.1.d) 0 ((CK.FX (CK.Y8 (CK.LL (CK.Ow (CK.IU (CK.MF (CK.Y9 (CK.bC (CK.JJ (CK.CV (CK.FA (CK.U0 (CK.IT (CK.J7 (CK.Nu (CK.lY k0 (Dop.HA.mk y7.2.1.1 y7.2.1.2.1 y7.2.1.2.2.1)) y7.2.1.2.2.2.2.1) y7.2.1.2.2.2.2.2.1) y7.2.1.2.2.2.2.2.2.1) y7.2.1.2.2.2.2.2.2.2.1) y7.2.1.2.2.2.2.2.2.2.2.1) y7.2.1.2.2.2.2.2.2.2.2.2.1) y7.2.1.2.2.2.2.2.2.2.2.2.2.1) (B4 k0.taken y7.1.1.text ((AM k0.taken y7.1.1.text).getD (0:Int)+1))) (Dop.Dc.mk y7.2.1.2.2.2.2.2.2.2.2.2.2.2.2.1 y7.2.1.2.2.2.2.2.2.2.2.2.2.2.2.2.1 y7.2.1.2.2.2.2.2.2.2.2.2.2.2.2.2.2.1 y7.2.1.2.2.2.2.2.2.2.2.2.2.2.2.2.2.2.1 y7.2.1.2.2.2.2.2.2.2.2.2.2.2.2.2.2.2.2.1)) y7.2.1.2.2.2.2.2.2.2.2.2.2.2.2.2.2.2.2.2.1) y7.2.1.2.2.2.2.2.2.2.2.2.2.2.2.2.2.2.2.2.2.2.2.1) y7.2.1.2.2.2.2.2.2.2.2.2.2.2.2.2.2.2.2.2.2.2.2.2.1) y7.2.1.2.2.2.2.2.2.2.2.2.2.2.2.2.2.2.2.2.2.2.2.2.2.1) y7.2.1.2.2.2.2.2.2.2.2.2.2.2.2.2.2.2.2.2.2.2.2.2.2.2.1) y7.2.1.2.2.2.2.2.2.2.2.2.2.2.2.2.2.2.2.2.2.2.2.2.2.2.2.1)) y7.2.2.1)<|
 tK.1 (Dop.gu.mk y2.1.1.a y2.1.1.b y2.1.1.c y2.1.1.d) 0 ((CK.FX (CK.Y8 (CK.LL (CK.Ow (CK.IU (CK.MF (CK.Y9 (CK.JJ (CK.CV (CK.FA (CK.U0 (CK.IT (CK.J7 (CK.Nu (CK.lY k0 (Dop.HA.mk y5.2.1.1 y5.2.1.2.1 y5.2.1.2.2.1)) y5.2.1.2.2.2.2.1) y5.2.1.2.2.2.2.2.1) y5.2.1.2.2.2.2.2.2.1) y5.2.1.2.2.2.2.2.2.2.1) y5.2.1.2.2.2.2.2.2.2.2.1) y5.2.1.2.2.2.2.2.2.2.2.2.1) y5.2.1.2.2.2.2.2.2.2.2.2.2.1) (Dop.Dc.mk y5.2.1.2.2.2.2.2.2.2.2.2.2.2.2.1 y5.2.1.2.2.2.2.2.2.2.2.2.2.2.2.2.1 y5.2.1.2.2.2.2.2.2.2.2.2.2.2.2.2.2.1 y5.2.1.2.2.2.2.2.2.2.2.2.2.2.2.2.2.2.1 y5.2.1.2.2.2.2.2.2.2.2.2.2.2.2.2.2.2.2.1)) y5.2.1.2.2.2.2.2.2.2.2.2.2.2.2.2.2.2.2.2.1) y5.2.1.2.2.2.2.2.2.2.2.2.2.2.2.2.2.2.2.2.2.2.2.1) y5.2.1.2.2.2.2.2.2.2.2.2.2.2.2.2.2.2.2.2.2.2.2.2.1) y5.2.1.2.2.2.2.2.2.2.2.2.2.2.2.2.2.2.2.2.2.2.2.2.2.1) y5.2.1.2.2.2.2.2.2.2.2.2.2.2.2.2.2.2.2.2.2.2.2.2.2.2.1) y5.2.1.2.2.2.2.2.2.2.2.2.2.2.2.2.2.2.2.2.2.2.2.2.2.2.2.1)) y5.2.2.1)<|
 tK.1 (Dop.gu.mk y2.1.1.a y2.1.1.b y2.1.1.c y2.1.1.d) 0 ((CK.FX (CK.Y8 (CK.LL (CK.Ow (CK.IU (CK.MF (CK.Y9 (CK.JJ (CK.CV (CK.FA (CK.U0 (CK.IT (CK.J7 (CK.Nu (CK.lY k0 (Dop.HA.mk y2.2.1.1 y2.2.1.2.1 y2.2.1.2.2.1)) y2.2.1.2.2.2.2.1) y2.2.1.2.2.2.2.2.1) y2.2.1.2.2.2.2.2.2.1) y2.2.1.2.2.2.2.2.2.2.1) y2.2.1.2.2.2.2.2.2.2.2.1) y2.2.1.2.2.2.2.2.2.2.2.2.1) y2.2.1.2.2.2.2.2.2.2.2.2.2.1) (Dop.Dc.mk y2.2.1.2.2.2.2.2.2.2.2.2.2.2.2.1 y2.2.1.2.2.2.2.2.2.2.2.2.2.2.2.2.1 y2.2.1.2.2.2.2.2.2.2.2.2.2.2.2.2.2.1 y2.2.1.2.2.2.2.2.2.2.2.2.2.2.2.2.2.2.1 y2.2.1.2.2.2.2.2.2.2.2.2.2.2.2.2.2.2.2.1)) y2.2.1.2.2.2.2.2.2.2.2.2.2.2.2.2.2.2.2.2.1) y2.2.1.2.2.2.2.2.2.2.2.2.2.2.2.2.2.2.2.2.2.2.2.1) y2.2.1.2.2.2.2.2.2.2.2.2.2.2.2.2.2.2.2.2.2.2.2.2.1) y2.2.1.2.2.2.2.2.2.2.2.2.2.2.2.2.2.2.2.2.2.2.2.2.2.1) y2.2.1.2.2.2.2.2.2.2.2.2.2.2.2.2.2.2.2.2.2.2.2.2.2.2.1) y2.2.1.2.2.2.2.2.2.2.2.2.2.2.2.2.2.2.2.2.2.2.2.2.2.2.2.1)) y2.2.2.1)<|
 tK.1 (Dop.gu.mk y2.1.1.a y2.1.1.b y2.1.1.c y2.1.1.d) 0 ((CK.FX (CK.Y8 (CK.LL (CK.Ow (CK.IU (CK.MF (CK.Y9 (CK.JJ (CK.CV (CK.FA (CK.U0 (CK.IT (CK.J7 (CK.Nu (CK.lY k0 (Dop.HA.mk y2.2.1.1 y2.2.1.2.1 y2.2.1.2.2.1)) y2.2.1.2.2.2.2.1) y2.2.1.2.2.2.2.2.1) y2.2.1.2.2.2.2.2.2.1) y2.2.1.2.2.2.2.2.2.2.1) y2.2.1.2.2.2.2.2.2.2.2.1) y2.2.1.2.2.2.2.2.2.2.2.2.1) y2.2.1.2.2.2.2.2.2.2.2.2.2.1) (Dop.Dc.mk y2.2.1.2.2.2.2.2.2.2.2.2.2.2.2.1 y2.2.1.2.2.2.2.2.2.2.2.2.2.2.2.2.1 y2.2.1.2.2.2.2.2.2.2.2.2.2.2.2.2.2.1 y2.2.1.2.2.2.2.2.2.2.2.2.2.2.2.2.2.2.1 y2.2.1.2.2.2.2.2.2.2.2.2.2.2.2.2.2.2.2.1)) y2.2.1.2.2.2.2.2.2.2.2.2.2.2.2.2.2.2.2.2.1) y2.2.1.2.2.2.2.2.2.2.2.2.2.2.2.2.2.2.2.2.2.2.2.1) y2.2.1.2.2.2.2.2.2.2.2.2.2.2.2.2.2.2.2.2.2.2.2.2.1) y2.2.1.2.2.2.2.2.2.2.2.2.2.2.2.2.2.2.2.2.2.2.2.2.2.1) y2.2.1.2.2.2.2.2.2.2.2.2.2.2.2.2.2.2.2.2.2.2.2.2.2.2.1) y2.2.1.2.2.2.2.2.2.2.2.2.2.2.2.2.2.2.2.2.2.2.2.2.2.2.2.1)) y2.2.2.1
def Cj.kf (rK:F6.T) (n:Int) (k0:CK) (k1:CT):SH CK CT:=Cj.k0 rK (Cj.kL rK 1000000) n k0 k1
def F6.kS (r:F6.T):F6.T:=(fun x=>Cj.kf r x.1.2.1 x.2.1 x.2.2.1,())
def F6.kR (n:Nat):F6.T:=C5 F6.kS n
def Cj.Kc (n:Nat):=kd 40 Cj.p (F6.kR n).1
def Cj.LO:=Cj.Kc FU
def Cj.k:=Cj.kr (F6.kR FU)
def F6.SK (n:Nat):List (By Dop.D4):=[Cj.Kc n]
theorem F6.E5: ∀ n,(Cj.Kc n).Holds prog/\True
 | 0=>⟨AO AH Cj.ok,trivial⟩
 | n+1=>by
  obtain ⟨h0,_⟩:=F6.E5 n
  have hh: ∀ c∈F6.SK n,c.Holds prog:=(hc h0 hn)
  exact ⟨GB AH (Ad hh (hc Cz.Kh hn)) Cj.ok (fun t x=>Cj.k0 (F6.kR n) t x.1.2.1 x.2.1 x.2.2.1) (fun c=>(fun t45 t46 k0 k1=>c 4 Cj.q4 rfl (((),t45,t46,()),(k0,k1,())),())) (Cj.kS (F6.kR n)) (by kernel_rfl),
   trivial⟩
theorem Cj.Ie:Cj.LO.Holds prog:=(F6.E5 FU).1
def HP.k (n:Int) (k0:CH) (k1:CT):R2 Dop.AZ CH CT:=
 let A1:=Ac (Dop.AZ.mk 0 (-1) (-1) (-1) (-1) [] 0 0 0) k0 k1
 ci (n<0) A1<|
 ci (I k0.t.nodes.length<=n) A1<|
 ck (0<=n/\n<I k0.t.nodes.length)<|
 Ac (List.getD k0.t.nodes n.toNat Dop.d5) k0 k1
def HP.Kc:=kd 17 HP.p fun x=>HP.k x.1.2.1 x.2.1 x.2.2.1
theorem HP.Kh:HP.Kc.Holds prog:=kh AH hn HP.ok (by kernel_rfl)
def DY.k (e n:Int) (k0:CH) (k1:CT):R2 Dop.Ae CH CT:=
 let A1:=Dop.Ae.mk (-1) 1 0 0 false
 ci (k0.e=0) ((HP.k n k0 k1).bind fun y3=>
 Ac A1 (CH.FX (CH.Y8 y3.2.1 e) y3.1.1.at_) y3.2.2.1)<|
 Ac A1 k0 k1
def DY.Kc:=kd 34 DY.p fun x=>DY.k x.1.2.1 x.1.2.2.1 x.2.1 x.2.2.1
theorem DY.Kh:DY.Kc.Holds prog:=kh AH (hc HP.Kh hn) DY.ok (by kernel_rfl)
abbrev Ll.T:Type:=Int->Int->Int->CH->CT->R2 Int CH CT
abbrev Jq.T:Type:=Int->Int->Int->Int->Int->CH->CT->R2 Int CH CT
abbrev BU.KT:Type:=Ll.T×Jq.T×Unit
def Ll.kB (tK:BU.KT):Ll.T:=fun t1 t2 t7 k0 k1=>
 let A1:=List.getD k0.t.types t7.toNat Dop.d6
 let A2:=List.getD k0.num A1.elem.toNat 0
 let z1:R2 Int CH CT:=
 ck (0<=t1/\t1<I k0.num.length)<|
 ck (t1.toNat<k0.num.length)<|
 Ac (List.getD k0.num t1.toNat 0) k0 k1
 ci (t7<=t1) (ci (t7<I k0.t.types.length) (ck (0<=t7/\t7<I k0.t.types.length)<|
 ci (A1.kind=4) (ck (0<=A1.elem/\A1.elem<I k0.num.length)<|
 ck (A1.elem.toNat<k0.num.length)<|
 (I5.k A2 k1).bind fun y5=>
 tK.2.1 t1 t2 t7 y5.1.1 y5.1.2.1 k0 y5.2.1)<|
 ci (A1.kind=5) (ck (0<=A1.elem/\A1.elem<I k0.num.length)<|
 ck (A1.elem.toNat<k0.num.length)<|
 (Kk.k A2 (A1.n) k1).bind fun y6=>
 tK.2.1 t1 t2 t7 y6.1.1 y6.1.2.1 k0 y6.2.1)<|
 ci (A1.kind=6) ((I6.k (A1.name) k1).bind fun y7=>
 tK.2.1 t1 t2 t7 y7.1.1 y7.1.2.1 k0 y7.2.1)<|
 tK.2.1 t1 t2 t7 t7 0 k0 k1)<|
 z1)<|
 z1
def Jq.kB (tK:BU.KT):Jq.T:=fun t1 t2 t7 t9 t10 k0 k1=>
 ci (!(t10=0)) ((DY.k t10 t2 k0 k1).bind fun y3=>
 Ac 1 y3.2.1 y3.2.2.1)<|
 ck (DK none (room 8 (k0.num.length+(t9::[]).length)))<|
 ck (BD (t7+1))<|
 tK.1 t1 t2 (t7+1) ((CH.Nu k0 (k0.num++t9::[]))) k1
def BU.kS (tK:BU.KT):BU.KT:=(Ll.kB tK,Jq.kB tK,())
def BU.kL (n:Nat):BU.KT:=C5 BU.kS n
def BU.k0 (tK:BU.KT) (t1 t2:Int) (k0:CH) (k1:CT):R2 Int CH CT:=
 tK.1 t1 t2 (I k0.num.length) k0 k1
def BU.k (t1 t2:Int) (k0:CH) (k1:CT):R2 Int CH CT:=BU.k0 (BU.kL 1000000) t1 t2 k0 k1
def BU.Kc:=kd 32 BU.p fun x=>BU.k x.1.2.1 x.1.2.2.1 x.2.1 x.2.2.1
theorem BU.Kh:BU.Kc.Holds prog:=GB AH (hc I5.Kh (hc Kk.Kh (hc I6.Kh (hc DY.Kh hn)))) BU.ok (fun t x=>BU.k0 t x.1.2.1 x.1.2.2.1 x.2.1 x.2.2.1) (fun c=>(fun t1 t2 t7 k0 k1=>c 2 BU.q2 rfl (((),t1,t2,t7,()),(k0,k1,())),fun t1 t2 t7 t9 t10 k0 k1=>c 13 BU.Zd rfl (((),t1,t2,t7,t9,t10,()),(k0,k1,())),())) BU.kS (by kernel_rfl)
def Hq.KE:Env Dop.D4:=Aj prog 18 tb [Gf.Kc,HP.Kc,BU.Kc,Gt.Kc,DY.Kc] Hq.p
def Hq.k (x:Dop.AZ) (n:Int) (k0:CH) (k1:CT):SH CH CT:=Hq.KE.J6 3000 1000000 Hq.p.sp (((),x,n,()),(k0,k1,()))
def Hq.Kc:=kd 18 Hq.p fun x=>Hq.k x.1.2.1 x.1.2.2.1 x.2.1 x.2.2.1
theorem Hq.Kh:Hq.Kc.Holds prog:=kh AH (hc Gf.Kh (hc HP.Kh (hc BU.Kh (hc Gt.Kh (hc DY.Kh hn))))) Hq.ok (by kernel_rfl)
def GR.k (t:Int) (k0:CH) (k1:CT):R2 Int CH CT:=
 (Et.k t k1).bind fun y2=>
 Ac y2.1.1.kind k0 y2.2.1
def GR.Kc:=kd 38 GR.p fun x=>GR.k x.1.2.1 x.2.1 x.2.2.1
theorem GR.Kh:GR.Kc.Holds prog:=kh AH (hc Et.Kh hn) GR.ok (by kernel_rfl)
def Hh.k (t:Int) (k0:CH) (k1:CT):R2 Bool CH CT:=
 (GR.k t k0 k1).bind fun y2=>
 ci (y2.1.1=1) (Ac true y2.2.1 y2.2.2.1)<|
 ci (y2.1.1=2) (Ac true y2.2.1 y2.2.2.1)<|
 Ac (decide (y2.1.1=3)) y2.2.1 y2.2.2.1
def Hh.Kc:=kd 36 Hh.p fun x=>Hh.k x.1.2.1 x.2.1 x.2.2.1
theorem Hh.Kh:Hh.Kc.Holds prog:=kh AH (hc GR.Kh hn) Hh.ok (by kernel_rfl)
def Hr.KE:Env Dop.D4:=Aj prog 19 tb [BU.Kc,Bf.LO,DY.Kc,Hh.Kc,Eh.Kc,GR.Kc] Hr.p
def Hr.k (t1:Dop.AZ) (t2:Int) (k0:CH) (k1:CT):SH CH CT:=Hr.KE.J6 3000 1000000 Hr.p.sp (((),t1,t2,()),(k0,k1,()))
def Hr.Kc:=kd 19 Hr.p fun x=>Hr.k x.1.2.1 x.1.2.2.1 x.2.1 x.2.2.1
theorem Hr.Kh:Hr.Kc.Holds prog:=kh AH (hc BU.Kh (hc Bf.Ie (hc DY.Kh (hc Hh.Kh (hc Eh.Kh (hc GR.Kh hn)))))) Hr.ok (by kernel_rfl)
abbrev P6.T:Type:=Int->List Int->CH->CT->Dop.AZ->List Int->Int->SH CH CT
abbrev L9.T:Type:=Int->List Int->Int->Int->CH->CT->Dop.AZ->List Int->Int->SH CH CT
abbrev Da.KT:Type:=P6.T×L9.T×Unit
def P6.kB (tK:Da.KT):P6.T:=fun t2 t11 k0 k1 b2 b3_0 b3_1=>
 let A1:=DY.k 4 t2 k0 k1
 ci (k0.e=0) (ci (6<I t11.length) (A1.bind fun y4=>
 tK.2.1 t2 t11 (I t11.length) 0 y4.2.1 y4.2.2.1 b2 b3_0 b3_1)<|
 ci (I k0.sigs.length=64) (A1.bind fun y5=>
 tK.2.1 t2 t11 (I t11.length) 0 y5.2.1 y5.2.2.1 b2 b3_0 b3_1)<|
 tK.2.1 t2 t11 (I t11.length) 0 k0 k1 b2 b3_0 b3_1)<|
 tK.2.1 t2 t11 (I t11.length) 0 k0 k1 b2 b3_0 b3_1
def L9.kB (tK:Da.KT):L9.T:=fun t2 t85 t86 t87 k0 k1 b2 b3_0 b3_1=>
 let A2:=List.getD t85 t87.toNat 0
 let A1:=CH.JJ k0 (B4 k0.sigs b2.text (Dop.N8.mk b3_0 b3_1))
 ci (t87<t86) (ck (0<=t87/\t87<I t85.length)<|
 ck (t87.toNat<t85.length)<|
 (HP.k A2 k0 k1).bind fun y3=>
 (BU.k y3.1.1.CC A2 y3.2.1 y3.2.2.1).bind fun y4=>
 ci (CH.e y4.2.1=0) ((DZ.k y4.1.1 y4.2.2.1).bind fun y6=>
 ci (!y6.1.1) ((DY.k 8 A2 y4.2.1 y6.2.1).bind fun y8=>
 ck (DK none (room 8 (b3_0.length+(y4.1.1::[]).length)))<|
 ck (BD (t87+1))<|
 tK.2.1 t2 t85 t86 (t87+1) y8.2.1 y8.2.2.1 b2 (b3_0++y4.1.1::[]) b3_1)<|
 ck (DK none (room 8 (b3_0.length+(y4.1.1::[]).length)))<|
 ck (BD (t87+1))<|
 tK.2.1 t2 t85 t86 (t87+1) y4.2.1 y6.2.1 b2 (b3_0++y4.1.1::[]) b3_1)<|
 ck (DK none (room 8 (b3_0.length+(y4.1.1::[]).length)))<|
 ck (BD (t87+1))<|
 tK.2.1 t2 t85 t86 (t87+1) y4.2.1 y4.2.2.1 b2 (b3_0++y4.1.1::[]) b3_1)<|
 ci (k0.e=0) (ci (!(b3_1=0)) ((DZ.k b3_1 k1).bind fun y5=>
 ci (!y5.1.1) ((DY.k 8 t2 k0 y5.2.1).bind fun y7=>
 hZ (CH.JJ y7.2.1 (B4 (CH.sigs y7.2.1) b2.text (Dop.N8.mk b3_0 b3_1))) y7.2.2.1)<|
 hZ A1 y5.2.1)<|
 hZ A1 k1)<|
 hZ A1 k1
def Da.kS (tK:Da.KT):Da.KT:=(P6.kB tK,L9.kB tK,())
def Da.kL (n:Nat):Da.KT:=C5 Da.kS n
def Da.k0 (tK:Da.KT) (t1:Dop.AZ) (t2:Int) (k0:CH) (k1:CT):SH CH CT:=
 (BU.k t1.CC t2 k0 k1).bind fun y2=>
 ck ((0:Int)<=0/\0<I (CH.names y2.2.1).length)<|
 ck (Int.toNat 0<(CH.names y2.2.1).length)<|
 ck (Int.toNat 0<(CH.names y2.2.1).length)<|
 (Gf.k (CH.t y2.2.1) t1.a).bind fun y3=>
 ci (CH.e y2.2.1=0) (ci ((AM (CH.sigs y2.2.1) t1.text).isSome) ((DY.k 7 t2 y2.2.1 y2.2.2.1).bind fun y6=>
 tK.1 t2 y3.1.1 y6.2.1 y6.2.2.1 t1 [] y2.1.1)<|
 ci ((AM (List.getD (CH.names y2.2.1) (Int.toNat 0) (([]:List (List UInt8×Dop.CD)))) t1.text).isSome) ((DY.k 7 t2 y2.2.1 y2.2.2.1).bind fun y7=>
 tK.1 t2 y3.1.1 y7.2.1 y7.2.2.1 t1 [] y2.1.1)<|
 tK.1 t2 y3.1.1 y2.2.1 y2.2.2.1 t1 [] y2.1.1)<|
 tK.1 t2 y3.1.1 y2.2.1 y2.2.2.1 t1 [] y2.1.1
def Da.k (t1:Dop.AZ) (t2:Int) (k0:CH) (k1:CT):SH CH CT:=Da.k0 (Da.kL 1000000) t1 t2 k0 k1
def Da.Kc:=kd 20 Da.p fun x=>Da.k x.1.2.1 x.1.2.2.1 x.2.1 x.2.2.1
theorem Da.Kh:Da.Kc.Holds prog:=GB AH (hc BU.Kh (hc Gf.Kh (hc DY.Kh (hc HP.Kh (hc DZ.Kh hn))))) Da.ok (fun t x=>Da.k0 t x.1.2.1 x.1.2.2.1 x.2.1 x.2.2.1) (fun c=>(fun t2 t11 k0 k1 b2 b3_0 b3_1=>c 7 Da.q7 rfl (((),t2,(),(),t11,()),(k0,k1,(b2,()),(b3_0,b3_1,()),())),fun t2 t85 t86 t87 k0 k1 b2 b3_0 b3_1=>c 10 Da.Us rfl (((),t2,(),(),t85,t86,t87,()),(k0,k1,(b2,()),(b3_0,b3_1,()),())),())) Da.kS (by kernel_rfl)
def Js.k (n:Int) (k0:CK) (k1:CT):R2 Int CK CT:=
 ci (n<0) (Ac (-1) k0 k1)<|
 (BV.k n k0 k1).bind fun y3=>
 Ac y3.1.1.n y3.2.1 y3.2.2.1
def Js.Kc:=kd 80 Js.p fun x=>Js.k x.1.2.1 x.2.1 x.2.2.1
theorem Js.Kh:Js.Kc.Holds prog:=kh AH (hc BV.Ie hn) Js.ok (by kernel_rfl)
def NF.k (x:Dop.AZ) (n:Int) (k0:CK) (k1:CT):R2 Int CK CT:=
 ci (x.a<0) ((B3.k 37 ((-1)) ((-1)) ((-1)) ((-1)) 0 [] k0 k1).bind BP)<|
 (CE.k x.a k0 k1).bind fun y3=>
 ci (CK.e y3.2.1=0) (ci (CK.DI y3.2.1=0) ((Aw.k 8 n y3.2.1 y3.2.2.1).bind fun y6=>
 Ac y6.1.1.n y6.2.1 y6.2.2.1)<|
 (BO.k y3.1.1 (CK.DI y3.2.1) n false y3.2.1 y3.2.2.1).bind fun y6=>
 (B3.k 37 y6.1.1 ((-1)) ((-1)) ((-1)) 0 [] y6.2.1 y6.2.2.1).bind BP)<|
 (BO.k y3.1.1 (CK.DI y3.2.1) n false y3.2.1 y3.2.2.1).bind fun y5=>
 (B3.k 37 y5.1.1 ((-1)) ((-1)) ((-1)) 0 [] y5.2.1 y5.2.2.1).bind BP
def NF.Kc:=kd 83 NF.p fun x=>NF.k x.1.2.1 x.1.2.2.1 x.2.1 x.2.2.1
theorem NF.Kh:NF.Kc.Holds prog:=kh AH (hc B3.Kh (hc CE.Ie (hc Aw.Kh (hc BO.Kh hn)))) NF.ok (by kernel_rfl)
def NG.k (t1:Dop.AZ) (t2:Int) (k0:CK) (k1:CT):R2 Int CK CT:=
 let A1:=Dop.Ae.mk (-1) 1 0 0 true
 (C7.k t1.CC t2 k0 k1).bind fun y2=>
 ci (0<=t1.a) ((CE.k t1.a y2.2.1 y2.2.2.1).bind fun y4=>
 (IY.k t1.text y2.1.1 t2 false y4.2.1 y4.2.2.1).bind fun y5=>
 ci (!y5.1.2.1) (Ac (-1) y5.2.1 y5.2.2.1)<|
 (DZ.k y2.1.1 y5.2.2.1).bind fun y7=>
 ci (!y7.1.1) (ci (0<=t1.a) ((Aw.k 8 t2 y5.2.1 y7.2.1).bind fun y10=>
 Ac y10.1.1.n y10.2.1 y10.2.2.1)<|
 (B3.k 44 ((-1)) ((-1)) ((-1)) ((-1)) 0 [] y5.2.1 y7.2.1).bind BP)<|
 ci (t1.a<0) ((Eu.k 0 y5.2.1 y7.2.1).bind fun y10=>
 ci (y5.1.1.kind=3) ((Fe.k y5.1.1 y10.2.1 y10.2.2.1).bind fun y12=>
 (BO.k (Dop.Ae.mk y10.1.1 y4.1.1.BB y4.1.1.left y4.1.1.at_ y4.1.1.zero) y2.1.1 t2 false y12.2.1 y12.2.2.1).bind fun y13=>
 (Dh.k (Dop.Ae.mk 0 y2.1.1 2 y12.1.1 false) y13.1.1 y13.2.1 y13.2.2.1).bind fun y14=>
 (B3.k 30 y14.1.1 ((-1)) ((-1)) ((-1)) 0 [] y14.2.1 y14.2.2.1).bind BP)<|
 (BO.k (Dop.Ae.mk y10.1.1 y4.1.1.BB y4.1.1.left y4.1.1.at_ y4.1.1.zero) y2.1.1 t2 false y10.2.1 y10.2.2.1).bind fun y12=>
 (Dh.k (Dop.Ae.mk 0 y2.1.1 1 y5.1.1.n false) y12.1.1 y12.2.1 y12.2.2.1).bind fun y13=>
 (B3.k 30 y13.1.1 ((-1)) ((-1)) ((-1)) 0 [] y13.2.1 y13.2.2.1).bind BP)<|
 ci (y5.1.1.kind=3) ((Fe.k y5.1.1 y5.2.1 y7.2.1).bind fun y11=>
 (BO.k y4.1.1 y2.1.1 t2 false y11.2.1 y11.2.2.1).bind fun y12=>
 (Dh.k (Dop.Ae.mk 0 y2.1.1 2 y11.1.1 false) y12.1.1 y12.2.1 y12.2.2.1).bind fun y13=>
 (B3.k 30 y13.1.1 ((-1)) ((-1)) ((-1)) 0 [] y13.2.1 y13.2.2.1).bind BP)<|
 (BO.k y4.1.1 y2.1.1 t2 false y5.2.1 y7.2.1).bind fun y11=>
 (Dh.k (Dop.Ae.mk 0 y2.1.1 1 y5.1.1.n false) y11.1.1 y11.2.1 y11.2.2.1).bind fun y12=>
 (B3.k 30 y12.1.1 ((-1)) ((-1)) ((-1)) 0 [] y12.2.1 y12.2.2.1).bind BP)<|
 (IY.k t1.text y2.1.1 t2 false y2.2.1 y2.2.2.1).bind fun y4=>
 ci (!y4.1.2.1) (Ac (-1) y4.2.1 y4.2.2.1)<|
 (DZ.k y2.1.1 y4.2.2.1).bind fun y6=>
 ci (!y6.1.1) (ci (0<=t1.a) ((Aw.k 8 t2 y4.2.1 y6.2.1).bind fun y9=>
 Ac y9.1.1.n y9.2.1 y9.2.2.1)<|
 (B3.k 44 ((-1)) ((-1)) ((-1)) ((-1)) 0 [] y4.2.1 y6.2.1).bind BP)<|
 ci (t1.a<0) ((Eu.k 0 y4.2.1 y6.2.1).bind fun y9=>
 ci (y4.1.1.kind=3) ((Fe.k y4.1.1 y9.2.1 y9.2.2.1).bind fun y11=>
 (BO.k (Dop.Ae.mk y9.1.1 1 0 0 true) y2.1.1 t2 false y11.2.1 y11.2.2.1).bind fun y12=>
 (Dh.k (Dop.Ae.mk 0 y2.1.1 2 y11.1.1 false) y12.1.1 y12.2.1 y12.2.2.1).bind fun y13=>
 (B3.k 30 y13.1.1 ((-1)) ((-1)) ((-1)) 0 [] y13.2.1 y13.2.2.1).bind BP)<|
 (BO.k (Dop.Ae.mk y9.1.1 1 0 0 true) y2.1.1 t2 false y9.2.1 y9.2.2.1).bind fun y11=>
 (Dh.k (Dop.Ae.mk 0 y2.1.1 1 y4.1.1.n false) y11.1.1 y11.2.1 y11.2.2.1).bind fun y12=>
 (B3.k 30 y12.1.1 ((-1)) ((-1)) ((-1)) 0 [] y12.2.1 y12.2.2.1).bind BP)<|
 ci (y4.1.1.kind=3) ((Fe.k y4.1.1 y4.2.1 y6.2.1).bind fun y10=>
 (BO.k A1 y2.1.1 t2 false y10.2.1 y10.2.2.1).bind fun y11=>
 (Dh.k (Dop.Ae.mk 0 y2.1.1 2 y10.1.1 false) y11.1.1 y11.2.1 y11.2.2.1).bind fun y12=>
 (B3.k 30 y12.1.1 ((-1)) ((-1)) ((-1)) 0 [] y12.2.1 y12.2.2.1).bind BP)<|
 (BO.k A1 y2.1.1 t2 false y4.2.1 y6.2.1).bind fun y10=>
 (Dh.k (Dop.Ae.mk 0 y2.1.1 1 y4.1.1.n false) y10.1.1 y10.2.1 y10.2.2.1).bind fun y11=>
 (B3.k 30 y11.1.1 ((-1)) ((-1)) ((-1)) 0 [] y11.2.1 y11.2.2.1).bind BP
def NG.Kc:=kd 87 NG.p fun x=>NG.k x.1.2.1 x.1.2.2.1 x.2.1 x.2.2.1
theorem NG.Kh:NG.Kc.Holds prog:=kh AH (hc C7.Kh (hc CE.Ie (hc IY.Kh (hc DZ.Kh (hc Aw.Kh (hc B3.Kh (hc Eu.Kh (hc Fe.Kh (hc BO.Kh (hc Dh.Kh hn)))))))))) NG.ok (by kernel_rfl)
abbrev Bg.kr (r:Cd.T) (t1:Int) (k0:CK) (k1:CT):R2 Int CK CT:=r.1 (((),t1,()),(k0,k1,()))
abbrev Gv.kr (r:Cd.T) (n:Int) (k0:CK) (k1:CT):R2 Int CK CT:=r.2.1 (((),n,()),(k0,k1,()))
abbrev HM.kr (r:Cd.T) (x:Dop.AZ) (n:Int) (k0:CK) (k1:CT):R2 Int CK CT:=r.2.2.1 (((),x,n,()),(k0,k1,()))
abbrev DP.kr (r:Cd.T) (k1:CK) (k2:CT) (b3:Dop.AZ):Option ((Int×Unit)×((Unit×Unit)×CK×CT×(Dop.AZ×Unit)×Unit)):=r.2.2.2.1 (((),(),()),(((),()),k1,k2,(b3,()),()))
abbrev Ln.T:Type:=Int->CK->CT->Dop.AZ->R2 Int CK CT
abbrev Lo.T:Type:=Int->Int->CK->CT->Dop.AZ->R2 Int CK CT
abbrev Bg.KT:Type:=Ln.T×Lo.T×Unit
def Ln.kB (rK:Cd.T) (tK:Bg.KT):Ln.T:=fun t1 k0 k1 b3=>
 let A1:=B3.k b3.kind ((-1)) ((-1)) ((-1)) ((-1)) 0 [] k0 k1
 let z1:R2 Int CK CT:=
 A1.bind BP
 ci (b3.kind=35) (ci (k0.LP=0) ((Aw.k 9 t1 k0 k1).bind fun y4=>
 Ac y4.1.1.n y4.2.1 y4.2.2.1)<|
 ci (b3.kind=36) (ci (k0.loops=0) ((Aw.k 9 t1 k0 k1).bind fun y6=>
 Ac y6.1.1.n y6.2.1 y6.2.2.1)<|
 A1.bind BP)<|
 z1)<|
 ci (b3.kind=36) (ci (k0.loops=0) ((Aw.k 9 t1 k0 k1).bind fun y5=>
 Ac y5.1.1.n y5.2.1 y5.2.2.1)<|
 z1)<|
 A1.bind BP
def Lo.kB (rK:Cd.T) (tK:Bg.KT):Lo.T:=fun t1 t27 k0 k1 b3=>
 let A2:=(HM.kr rK b3 t1 k0 k1).bind BP
 let A1:=B4 k0.labels b3.text ((AM k0.labels b3.text).getD (0:Int)+1)
 let z1:R2 Int CK CT:=
 ci (t27=43) (ck (room 8 (k0.names.length+1))<|
 (DP.kr rK ((CK.CV k0 (k0.names++([]:List (List UInt8×Dop.CD))::[]))) k1 b3).bind fun y9=>
 ck (BD (I (CK.names y9.2.2.1).length -1))<|
 ck (0<=I (CK.names y9.2.2.1).length -1/\I (CK.names y9.2.2.1).length -1<=I (CK.names y9.2.2.1).length)<|
 Ac y9.1.1 (CK.CV y9.2.2.1 (List.take (I (CK.names y9.2.2.1).length -1).toNat (CK.names y9.2.2.1))) y9.2.2.2.1)<|
 ci (t27=45) ((NG.k b3 t1 k0 k1).bind BP)<|
 (B3.k 44 ((-1)) ((-1)) ((-1)) ((-1)) 0 [] k0 k1).bind BP
 ci (t27=37) ((NF.k b3 t1 k0 k1).bind BP)<|
 ci (t27=38) (ci (!(AM k0.gotos b3.text).isSome) ((B3.k 38 ((-1)) ((-1)) ((-1)) ((-1)) 0 b3.text ((CK.bB k0 (B4 k0.gotos b3.text t1))) k1).bind BP)<|
 (B3.k 38 ((-1)) ((-1)) ((-1)) ((-1)) 0 b3.text k0 k1).bind BP)<|
 ci (t27=39) (ck (BD ((AM k0.labels b3.text).getD (0:Int)+1))<|
 ci (1<(AM A1 b3.text).getD 0) ((Aw.k 9 t1 ((CK.Ro k0 A1)) k1).bind fun y6=>
 Ac y6.1.1.n y6.2.1 y6.2.2.1)<|
 (Bg.kr rK b3.a ((CK.Ro k0 A1)) k1).bind fun y6=>
 (B3.k 39 y6.1.1 ((-1)) ((-1)) ((-1)) 0 b3.text y6.2.1 y6.2.2.1).bind BP)<|
 ci (t27=40) ((CE.k b3.a k0 k1).bind fun y6=>
 ck (room 8 ((CK.MH y6.2.1).length+1))<|
 ck (BD (CK.LP y6.2.1+1))<|
 (Bg.kr rK b3.b ((CK.LL (CK.Ow y6.2.1 (CK.MH y6.2.1++([]:List (Int×Int))::[])) (CK.LP y6.2.1+1))) y6.2.2.1).bind fun y7=>
 ck (BD (CK.LP y7.2.1 -1))<|
 ck (BD (I (CK.MH y7.2.1).length -1))<|
 ck (0<=I (CK.MH y7.2.1).length -1/\I (CK.MH y7.2.1).length -1<=I (CK.MH y7.2.1).length)<|
 (B3.k 40 y6.1.1.n y7.1.1 ((-1)) ((-1)) 0 [] ((CK.LL (CK.Ow y7.2.1 (List.take (I (CK.MH y7.2.1).length -1).toNat (CK.MH y7.2.1))) (CK.LP y7.2.1 -1))) y7.2.2.1).bind BP)<|
 ci (t27=41) (ci (t27=41) A2<|
 z1)<|
 ci (t27=42) A2<|
 z1
def Bg.kS (rK:Cd.T) (tK:Bg.KT):Bg.KT:=(Ln.kB rK tK,Lo.kB rK tK,())
def Bg.kL (rK:Cd.T) (n:Nat):Bg.KT:=C5 (Bg.kS rK) n
def Bg.k0 (rK:Cd.T) (tK:Bg.KT) (t1:Int) (k0:CK) (k1:CT):R2 Int CK CT:=
 (N9.k t1 k0 k1).bind fun y2=>
 ci (!(CK.e y2.2.1=0)) (Ac (-1) y2.2.1 y2.2.2.1)<|
 ci (y2.1.1.kind=30) ((Js.k y2.1.1.a y2.2.1 y2.2.2.1).bind fun y5=>
 (B3.k 30 y5.1.1 ((-1)) ((-1)) ((-1)) 0 [] y5.2.1 y5.2.2.1).bind BP)<|
 ci (y2.1.1.kind=31) ((CE.k y2.1.1.a y2.2.1 y2.2.2.1).bind fun y6=>
 (Bg.kr rK y2.1.1.b y6.2.1 y6.2.2.1).bind fun y7=>
 ci (0<=y2.1.1.c) ((Bg.kr rK y2.1.1.c y7.2.1 y7.2.2.1).bind fun y9=>
 (B3.k 31 y6.1.1.n y7.1.1 y9.1.1 ((-1)) 0 [] y9.2.1 y9.2.2.1).bind BP)<|
 (B3.k 31 y6.1.1.n y7.1.1 ((-1)) ((-1)) 0 [] y7.2.1 y7.2.2.1).bind BP)<|
 ci (y2.1.1.kind=32) ((CE.k y2.1.1.a y2.2.1 y2.2.2.1).bind fun y7=>
 (Gv.kr rK y2.1.1.b y7.2.1 y7.2.2.1).bind fun y8=>
 (B3.k 32 y7.1.1.n y8.1.1 ((-1)) ((-1)) 0 [] y8.2.1 y8.2.2.1).bind BP)<|
 ci (y2.1.1.kind=33) ((Gv.kr rK y2.1.1.b y2.2.1 y2.2.2.1).bind fun y8=>
 (CE.k y2.1.1.a y8.2.1 y8.2.2.1).bind fun y9=>
 (B3.k 33 y9.1.1.n y8.1.1 ((-1)) ((-1)) 0 [] y9.2.1 y9.2.2.1).bind BP)<|
 ci (y2.1.1.kind=34) ((Js.k y2.1.1.a y2.2.1 y2.2.2.1).bind fun y9=>
 ci (0<=y2.1.1.b) ((CE.k y2.1.1.b y9.2.1 y9.2.2.1).bind fun y11=>
 (Js.k y2.1.1.c y11.2.1 y11.2.2.1).bind fun y12=>
 (Gv.kr rK y2.1.1.d y12.2.1 y12.2.2.1).bind fun y13=>
 (B3.k 34 y9.1.1 y11.1.1.n y12.1.1 y13.1.1 0 [] y13.2.1 y13.2.2.1).bind BP)<|
 (Js.k y2.1.1.c y9.2.1 y9.2.2.1).bind fun y11=>
 (Gv.kr rK y2.1.1.d y11.2.1 y11.2.2.1).bind fun y12=>
 (B3.k 34 y9.1.1 ((-1)) y11.1.1 y12.1.1 0 [] y12.2.1 y12.2.2.1).bind BP)<|
 ci (y2.1.1.kind=35) (ci (y2.1.1.kind=35) (tK.1 t1 y2.2.1 y2.2.2.1 y2.1.1)<|
 tK.2.1 t1 y2.1.1.kind y2.2.1 y2.2.2.1 y2.1.1)<|
 ci (y2.1.1.kind=36) (tK.1 t1 y2.2.1 y2.2.2.1 y2.1.1)<|
 tK.2.1 t1 y2.1.1.kind y2.2.1 y2.2.2.1 y2.1.1
def Bg.kf (rK:Cd.T) (t1:Int) (k0:CK) (k1:CT):R2 Int CK CT:=Bg.k0 rK (Bg.kL rK 1000000) t1 k0 k1
def Gv.kf (rK:Cd.T) (n:Int) (k0:CK) (k1:CT):R2 Int CK CT:=
 ck (BD (k0.loops+1))<|
 ck (BD (k0.LP+1))<|
 (Bg.kr rK n ((CK.LL (CK.IU k0 (k0.loops+1)) (k0.LP+1))) k1).bind fun y2=>
 ck (BD (CK.loops y2.2.1 -1))<|
 ck (BD (CK.LP y2.2.1 -1))<|
 Ac y2.1.1 (CK.LL (CK.IU y2.2.1 (CK.loops y2.2.1 -1)) (CK.LP y2.2.1 -1)) y2.2.2.1
def HM.kf (rK:Cd.T) (x:Dop.AZ) (n:Int) (k0:CK) (k1:CT):R2 Int CK CT:=(Aj (S:=Dop.D4) prog 84 tb (Cd.ct rK++[Eh.Kc,Aw.Kc,B3.Kc]) HM.p).J6 3000 1000000 HM.p.sp (((),x,n,()),(k0,k1,()))
abbrev Pp.T:Type:=List Int->List Int->Int->Int->CK->CT->Dop.AZ->Option ((Int×Unit)×((Unit×Unit)×CK×CT×(Dop.AZ×Unit)×Unit))
abbrev DP.KT:Type:=Pp.T×Unit
def Pp.kB (rK:Cd.T) (tK:DP.KT):Pp.T:=fun l t12 t13 t14 k1 k2 b3=>
 ci (t14<t13) (ck (0<=t14/\t14<I t12.length)<|
 ck (t14.toNat<t12.length)<|
 (Bg.kr rK (List.getD t12 t14.toNat 0) k1 k2).bind fun y3=>
 ck (DK none (room 8 (l.length+(y3.1.1::[]).length)))<|
 ck (BD (t14+1))<|
 tK.1 (l++y3.1.1::[]) t12 t13 (t14+1) y3.2.1 y3.2.2.1 b3)<|
 (Ab.k l k1 k2).bind fun y3=>
 (B3.k 43 y3.1.1 ((-1)) ((-1)) ((-1)) 0 [] y3.2.1 y3.2.2.1).bind fun y4=>
 some ((y4.1.1,()),(((),()),(y4.2.1,(y4.2.2.1,((b3,()),())))))
def DP.kS (rK:Cd.T) (tK:DP.KT):DP.KT:=(Pp.kB rK tK,())
def DP.kL (rK:Cd.T) (n:Nat):DP.KT:=C5 (DP.kS rK) n
def DP.k0 (rK:Cd.T) (tK:DP.KT) (k1:CK) (k2:CT) (b3:Dop.AZ):Option ((Int×Unit)×((Unit×Unit)×CK×CT×(Dop.AZ×Unit)×Unit)):=
 (Gf.k k1.t b3.a).bind fun y2=>
 tK.1 [] y2.1.1 (I y2.1.1.length) 0 k1 k2 b3
def DP.kf (rK:Cd.T) (k1:CK) (k2:CT) (b3:Dop.AZ):Option ((Int×Unit)×((Unit×Unit)×CK×CT×(Dop.AZ×Unit)×Unit)):=DP.k0 rK (DP.kL rK 1000000) k1 k2 b3
def Cd.kS (r:Cd.T):Cd.T:=(fun x=>Bg.kf r x.1.2.1 x.2.1 x.2.2.1,fun x=>Gv.kf r x.1.2.1 x.2.1 x.2.2.1,fun x=>HM.kf r x.1.2.1 x.1.2.2.1 x.2.1 x.2.2.1,fun x=>DP.kf r x.2.2.1 x.2.2.2.1 x.2.2.2.2.1.1,())
def Cd.kR (n:Nat):Cd.T:=C5 Cd.kS n
def Bg.Kc (n:Nat):=kd 46 Bg.p (Cd.kR n).1
def Bg.LO:=Bg.Kc FU
def Bg.k:=Bg.kr (Cd.kR FU)
def Gv.Kc (n:Nat):=kd 82 Gv.p (Cd.kR n).2.1
def HM.Kc (n:Nat):=kd 84 HM.p (Cd.kR n).2.2.1
def DP.Kc (n:Nat):=kd 86 DP.p (Cd.kR n).2.2.2.1
def Cd.SK (n:Nat):List (By Dop.D4):=[Bg.Kc n,Gv.Kc n,HM.Kc n,DP.Kc n]
theorem Cd.E5: ∀ n,(Bg.Kc n).Holds prog/\(Gv.Kc n).Holds prog/\(HM.Kc n).Holds prog/\(DP.Kc n).Holds prog/\True
 | 0=>⟨AO AH Bg.ok,AO AH Gv.ok,AO AH HM.ok,AO AH DP.ok,trivial⟩
 | n+1=>by
  obtain ⟨h0,h1,h2,h3,_⟩:=Cd.E5 n
  have hh: ∀ c∈Cd.SK n,c.Holds prog:=(hc h0 (hc h1 (hc h2 (hc h3 hn))))
  exact ⟨GB AH (Ad hh (hc N9.Kh (hc Js.Kh (hc B3.Kh (hc CE.Ie (hc Aw.Kh (hc NF.Kh (hc NG.Kh hn)))))))) Bg.ok (fun t x=>Bg.k0 (Cd.kR n) t x.1.2.1 x.2.1 x.2.2.1) (fun c=>(fun t1 k0 k1 b3=>c 27 Bg.nG rfl ((t1,(),(),()),(k0,k1,((),()),(b3,()),())),fun t1 t27 k0 k1 b3=>c 30 Bg.nH rfl ((t1,(),(),t27,()),(k0,k1,((),()),(b3,()),())),())) (Bg.kS (Cd.kR n)) (by kernel_rfl),
   kh AH (Ad hh hn) Gv.ok (by kernel_rfl),
   kh AH (Ad hh (hc Eh.Kh (hc Aw.Kh (hc B3.Kh hn)))) HM.ok (by kernel_rfl),
   GB AH (Ad hh (hc Gf.Kh (hc Ab.Kh (hc B3.Kh hn)))) DP.ok (fun t x=>DP.k0 (Cd.kR n) t x.2.2.1 x.2.2.2.1 x.2.2.2.2.1.1) (fun c=>(fun l t12 t13 t14 k1 k2 b3=>c 3 DP.q3 rfl (((),l,t12,t13,t14,()),(((),()),k1,k2,(b3,()),())),())) (DP.kS (Cd.kR n)) (by kernel_rfl),
   trivial⟩
theorem Bg.Ie:Bg.LO.Holds prog:=(Cd.E5 FU).1
end
end Go.Proofs.Tryz
