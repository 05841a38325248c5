/-
 Functions in plain words (what their equations say), and their contracts. Written by a program.
-/
import Derived.Test.YtkpggdcpaeanaaaGreatDoorMt
set_option maxRecDepth 100000
set_option maxHeartbeats 4000000
namespace Go.Proofs.Tryz
open Go Go.En
noncomputable section
@[reducible] def Mc:List (List UInt8):=([105,110,116,32,120,37]:List UInt8)::([117,110,115,105,103,110,101,100,32,120,37]:List UInt8)::([99,104,97,114,32,120,37]:List UInt8)::([105,110,116,42,120,37]:List UInt8)::([99,104,97,114,42,120,37]:List UInt8)::([115,116,114,117,99,116,32,115,32,120,37]:List UInt8)::([105,110,116,32,120,37,91,50,93]:List UInt8)::[]
@[reducible] def PD:List (List UInt8):=([43]:List UInt8)::([45]:List UInt8)::([42]:List UInt8)::([60]:List UInt8)::([61,61]:List UInt8)::([38,38]:List UInt8)::([61]:List UInt8)::([60,60]:List UInt8)::[]
def m22.k (n:Int):Gh Bool:=
 Fx (decide (n<3))
def m22.Kc:=kd 22 m22.p fun x=>m22.k x.1.1
theorem m22.Kh:m22.Kc.Holds prog:=kh AJ hn m22.ok (by kernel_rfl)
def m23.k (n:Int):Gh Bool:=
 ci (n=3) (Fx true)<|
 ci (n=4) (Fx true)<|
 Fx (decide (n=6))
def m23.Kc:=kd 23 m23.p fun x=>m23.k x.1.1
theorem m23.Kh:m23.Kc.Holds prog:=kh AJ hn m23.ok (by kernel_rfl)
def m24.k (n:Int):Gh Int:=
 ci (n=6) (Fx 3)<|
 Fx n
def m24.Kc:=kd 24 m24.p fun x=>m24.k x.1.1
theorem m24.Kh:m24.Kc.Holds prog:=kh AJ hn m24.ok (by kernel_rfl)
abbrev Se.T:Type:=Int→Bool→Gh Bool
abbrev m5.KT:Type:=Se.T×Unit
def Se.kB (tK:m5.KT):Se.T:=fun t15 t19=>
 ci ((t15=0) == t19) (ci t19 (Fx true)<|
 ci (t15=8) (Fx true)<|
 Fx false)<|
 Fx false
def m5.kS (tK:m5.KT):m5.KT:=(Se.kB tK,())
def m5.kL (n:Nat):m5.KT:=Eu m5.kS n
def m5.kq (tK:m5.KT) (i k j:Int):Gh Bool:=
 ck (i.toNat<Mc.length)<|
 ck (P2 (Mc.getD i.toNat []) && (1≤([37]:List UInt8).length) && ((Mc.getD i.toNat []).length+Lib.count (Mc.getD i.toNat []) ([37]:List UInt8)*([97]:List UInt8).length≤140737488355328))<|
 ck (([115,116,114,117,99,116,32,115,123,105,110,116,32,118,59,125,59,105,110,116,32,109,97,105,110,40,41,123]:List UInt8).length+(Lib.replace (Mc.getD i.toNat []) ([37]:List UInt8) ([97]:List UInt8) 1).length≤9223372036854775807)<|
 ck (((115:UInt8)::(116:UInt8)::(114:UInt8)::(117:UInt8)::(99:UInt8)::(116:UInt8)::(32:UInt8)::(115:UInt8)::(123:UInt8)::(105:UInt8)::(110:UInt8)::(116:UInt8)::(32:UInt8)::(118:UInt8)::(59:UInt8)::(125:UInt8)::(59:UInt8)::(105:UInt8)::(110:UInt8)::(116:UInt8)::(32:UInt8)::(109:UInt8)::(97:UInt8)::(105:UInt8)::(110:UInt8)::(40:UInt8)::(41:UInt8)::(123:UInt8)::[]++Lib.replace (Mc.getD i.toNat []) ([37]:List UInt8) ([97]:List UInt8) 1).length+([59]:List UInt8).length≤9223372036854775807)<|
 ck (0≤k∧k<I Mc.length)<|
 ck (k.toNat<Mc.length)<|
 ck (P2 (Mc.getD k.toNat []) && (1≤([37]:List UInt8).length) && ((Mc.getD k.toNat []).length+Lib.count (Mc.getD k.toNat []) ([37]:List UInt8)*([98]:List UInt8).length≤140737488355328))<|
 ck (((115:UInt8)::(116:UInt8)::(114:UInt8)::(117:UInt8)::(99:UInt8)::(116:UInt8)::(32:UInt8)::(115:UInt8)::(123:UInt8)::(105:UInt8)::(110:UInt8)::(116:UInt8)::(32:UInt8)::(118:UInt8)::(59:UInt8)::(125:UInt8)::(59:UInt8)::(105:UInt8)::(110:UInt8)::(116:UInt8)::(32:UInt8)::(109:UInt8)::(97:UInt8)::(105:UInt8)::(110:UInt8)::(40:UInt8)::(41:UInt8)::(123:UInt8)::[]++Lib.replace (Mc.getD i.toNat []) ([37]:List UInt8) ([97]:List UInt8) 1++(59:UInt8)::[]).length+(Lib.replace (Mc.getD k.toNat []) ([37]:List UInt8) ([98]:List UInt8) 1).length≤9223372036854775807)<|
 ck (((115:UInt8)::(116:UInt8)::(114:UInt8)::(117:UInt8)::(99:UInt8)::(116:UInt8)::(32:UInt8)::(115:UInt8)::(123:UInt8)::(105:UInt8)::(110:UInt8)::(116:UInt8)::(32:UInt8)::(118:UInt8)::(59:UInt8)::(125:UInt8)::(59:UInt8)::(105:UInt8)::(110:UInt8)::(116:UInt8)::(32:UInt8)::(109:UInt8)::(97:UInt8)::(105:UInt8)::(110:UInt8)::(40:UInt8)::(41:UInt8)::(123:UInt8)::[]++Lib.replace (Mc.getD i.toNat []) ([37]:List UInt8) ([97]:List UInt8) 1++(59:UInt8)::[]++Lib.replace (Mc.getD k.toNat []) ([37]:List UInt8) ([98]:List UInt8) 1).length+([59,120,97]:List UInt8).length≤9223372036854775807)<|
 ck (0≤j∧j<I PD.length)<|
 ck (j.toNat<PD.length)<|
 ck (((115:UInt8)::(116:UInt8)::(114:UInt8)::(117:UInt8)::(99:UInt8)::(116:UInt8)::(32:UInt8)::(115:UInt8)::(123:UInt8)::(105:UInt8)::(110:UInt8)::(116:UInt8)::(32:UInt8)::(118:UInt8)::(59:UInt8)::(125:UInt8)::(59:UInt8)::(105:UInt8)::(110:UInt8)::(116:UInt8)::(32:UInt8)::(109:UInt8)::(97:UInt8)::(105:UInt8)::(110:UInt8)::(40:UInt8)::(41:UInt8)::(123:UInt8)::[]++Lib.replace (Mc.getD i.toNat []) ([37]:List UInt8) ([97]:List UInt8) 1++(59:UInt8)::[]++Lib.replace (Mc.getD k.toNat []) ([37]:List UInt8) ([98]:List UInt8) 1++(59:UInt8)::(120:UInt8)::(97:UInt8)::[]).length+(PD.getD j.toNat []).length≤9223372036854775807)<|
 ck (((115:UInt8)::(116:UInt8)::(114:UInt8)::(117:UInt8)::(99:UInt8)::(116:UInt8)::(32:UInt8)::(115:UInt8)::(123:UInt8)::(105:UInt8)::(110:UInt8)::(116:UInt8)::(32:UInt8)::(118:UInt8)::(59:UInt8)::(125:UInt8)::(59:UInt8)::(105:UInt8)::(110:UInt8)::(116:UInt8)::(32:UInt8)::(109:UInt8)::(97:UInt8)::(105:UInt8)::(110:UInt8)::(40:UInt8)::(41:UInt8)::(123:UInt8)::[]++Lib.replace (Mc.getD i.toNat []) ([37]:List UInt8) ([97]:List UInt8) 1++(59:UInt8)::[]++Lib.replace (Mc.getD k.toNat []) ([37]:List UInt8) ([98]:List UInt8) 1++(59:UInt8)::(120:UInt8)::(97:UInt8)::[]++PD.getD j.toNat []).length+([120,98,59,114,101,116,117,114,110,32,48,59,125]:List UInt8).length≤9223372036854775807)<|
 (m18.k ((115:UInt8)::(116:UInt8)::(114:UInt8)::(117:UInt8)::(99:UInt8)::(116:UInt8)::(32:UInt8)::(115:UInt8)::(123:UInt8)::(105:UInt8)::(110:UInt8)::(116:UInt8)::(32:UInt8)::(118:UInt8)::(59:UInt8)::(125:UInt8)::(59:UInt8)::(105:UInt8)::(110:UInt8)::(116:UInt8)::(32:UInt8)::(109:UInt8)::(97:UInt8)::(105:UInt8)::(110:UInt8)::(40:UInt8)::(41:UInt8)::(123:UInt8)::[]++Lib.replace (Mc.getD i.toNat []) ([37]:List UInt8) ([97]:List UInt8) 1++(59:UInt8)::[]++Lib.replace (Mc.getD k.toNat []) ([37]:List UInt8) ([98]:List UInt8) 1++(59:UInt8)::(120:UInt8)::(97:UInt8)::[]++PD.getD j.toNat []++(120:UInt8)::(98:UInt8)::(59:UInt8)::(114:UInt8)::(101:UInt8)::(116:UInt8)::(117:UInt8)::(114:UInt8)::(110:UInt8)::(32:UInt8)::(48:UInt8)::(59:UInt8)::(125:UInt8)::[])).bind fun y2=>
 let z1:Gh Bool:=
 (m23.k i).bind fun y13=>
 ci y13.1.1 (ci (j=0) (tK.1 y2.1.2.2.1 true)<|
 tK.1 y2.1.2.2.1 (decide (j=1)))<|
 tK.1 y2.1.2.2.1 (decide (j=0))
 let z2:Gh Bool:=
 ci (j=1) (tK.1 y2.1.2.2.1 true)<|
 ci (j=3) (tK.1 y2.1.2.2.1 true)<|
 tK.1 y2.1.2.2.1 (decide (j=4))
 let z3:Gh Bool:=
 ci (j=0) (tK.1 y2.1.2.2.1 true)<|
 tK.1 y2.1.2.2.1 (decide (j=1))
 ci (i=5) (tK.1 y2.1.2.2.1 false)<|
 ci (k=5) (tK.1 y2.1.2.2.1 false)<|
 (m22.k i).bind fun y5=>
 ci y5.1.1 ((m22.k k).bind fun y7=>
 ci y7.1.1 (tK.1 y2.1.2.2.1 true)<|
 ck (0≤j∧j<I PD.length)<|
 ck (j.toNat<PD.length)<|
 ci (PD.getD j.toNat []=(38:UInt8)::(38:UInt8)::[]) (tK.1 y2.1.2.2.1 true)<|
 ck (0≤j∧j<I PD.length)<|
 ck (j.toNat<PD.length)<|
 ci (PD.getD j.toNat []=(61:UInt8)::[]) (ci (!(i=6)) ((m23.k i).bind fun y12=>
 ci y12.1.1 ((m23.k k).bind fun y14=>
 ci y14.1.1 ((m24.k i).bind fun y16=>
 (m24.k k).bind fun y17=>
 tK.1 y2.1.2.2.1 (decide (y16.1.1=y17.1.1)))<|
 tK.1 y2.1.2.2.1 false)<|
 tK.1 y2.1.2.2.1 false)<|
 tK.1 y2.1.2.2.1 false)<|
 (m23.k i).bind fun y11=>
 ci y11.1.1 ((m23.k k).bind fun y13=>
 ci y13.1.1 ((m24.k i).bind fun y15=>
 (m24.k k).bind fun y16=>
 ci (y15.1.1=y16.1.1) (z2)<|
 tK.1 y2.1.2.2.1 false)<|
 (m23.k i).bind fun y15=>
 ci y15.1.1 (z3)<|
 tK.1 y2.1.2.2.1 (decide (j=0)))<|
 z1)<|
 ck (0≤j∧j<I PD.length)<|
 ck (j.toNat<PD.length)<|
 ci (PD.getD j.toNat []=(38:UInt8)::(38:UInt8)::[]) (tK.1 y2.1.2.2.1 true)<|
 ck (0≤j∧j<I PD.length)<|
 ck (j.toNat<PD.length)<|
 ci (PD.getD j.toNat []=(61:UInt8)::[]) (ci (!(i=6)) ((m23.k i).bind fun y10=>
 ci y10.1.1 ((m23.k k).bind fun y12=>
 ci y12.1.1 ((m24.k i).bind fun y14=>
 (m24.k k).bind fun y15=>
 tK.1 y2.1.2.2.1 (decide (y14.1.1=y15.1.1)))<|
 tK.1 y2.1.2.2.1 false)<|
 tK.1 y2.1.2.2.1 false)<|
 tK.1 y2.1.2.2.1 false)<|
 (m23.k i).bind fun y9=>
 ci y9.1.1 ((m23.k k).bind fun y11=>
 ci y11.1.1 ((m24.k i).bind fun y13=>
 (m24.k k).bind fun y14=>
 ci (y13.1.1=y14.1.1) (z2)<|
 tK.1 y2.1.2.2.1 false)<|
 z1)<|
 (m23.k i).bind fun y11=>
 ci y11.1.1 (z3)<|
 tK.1 y2.1.2.2.1 (decide (j=0))
def m5.k0 (tK:m5.KT) (o t1 t2:Int):Gh Bool:=
 ck (Av o)<|
 ck ((7:Int)≠0)<|
 ck (Av t1)<|
 ck ((7:Int)≠0)<|
 ck (Av t2)<|
 ck ((8:Int)≠0)<|
 ck (0≤o.tmod 7∧o.tmod 7<I Mc.length)<|
 m5.kq tK (o.tmod 7) (t1.tmod 7) (t2.tmod 8)
def m5.k (o t1 t2:Int):Gh Bool:=m5.k0 (m5.kL 1000000) o t1 t2
def m5.Kc:=kd 5 m5.p fun x=>m5.k x.1.1 x.1.2.1 x.1.2.2.1
theorem m5.Kh:m5.Kc.Holds prog:=GG AJ (hc replace.holds (hc m18.Kh (hc m22.Kh (hc m23.Kh (hc m24.Kh (hc UT.holds hn)))))) m5.ok (fun t x=>m5.k0 t x.1.1 x.1.2.1 x.1.2.2.1) (fun c=>(fun t15 t19=>c 22 m5.hZ rfl ((t15,t19,()),()),())) m5.kS (by kernel_rfl)
end
end Go.Proofs.Tryz
