/-
 Functions in plain words (what their equations say), and their contracts. Written by a program.
-/
import Derived.Test.YtpjlciengdhjoaaGreatDoorTwL
import Derived.Test.YtpjlciengdhjoaaGreatDoorMo
set_option maxRecDepth 100000
set_option maxHeartbeats 4000000
namespace Go.Proofs.Tryz
open Go Go.En
noncomputable section
def HA.KE:Env Dop.D4:=AU prog 57 tb [Bq.JE,D5.Kc,BB.Kc,Ni.Kc] HA.p
def HA.k (t1:List UInt8) (t2 t3:Int) (t4:Bool) (k0:CK) (k1:CT):mX Dop.EB Bool CK CT:=HA.KE.Ei 3000 1000000 HA.p.sp (((),t1,t2,t3,t4,()),(k0,k1,()))
def HA.Kc:=kd 57 HA.p fun x=>HA.k x.1.2.1 x.1.2.2.1 x.1.2.2.2.1 x.1.2.2.2.2.1 x.2.1 x.2.2.1
theorem HA.Kh:HA.Kc.Holds prog:=kh AJ (hc Bq.Hi (hc D5.Kh (hc BB.Kh (hc Ni.Kh hn)))) HA.ok (by kernel_rfl)
abbrev Bz.kr (r:Dy.T) (n:Int) (k0:CK) (k1:CT):PZ CK CT:=r.1 (((),n,()),(k0,k1,()))
abbrev JQ.T:Type:=Dop.cU->Int->CK->CT->PZ CK CT
abbrev Bz.KT:Type:=JQ.T×Unit
def JQ.kB (rK:Dy.T) (tK:Bz.KT):JQ.T:=fun t45 t46 k0 k1=>
 ci (t46<4) (ck (0<=t46/\t46<I 4)<|
 ci (0<=(t45.x0::t45.x1::t45.x2::t45.x3::[]).getD t46.toNat 0) ((Bz.kr rK ((t45.x0::t45.x1::t45.x2::t45.x3::[]).getD t46.toNat 0) k0 k1).bind fun y1=>
 ck (Al (t46+1))<|
 tK.1 t45 (t46+1) y1.2.1 y1.2.2.1)<|
 ck (Al (t46+1))<|
 tK.1 t45 (t46+1) k0 k1)<|
 Wg k0 k1
def Bz.kS (rK:Dy.T) (tK:Bz.KT):Bz.KT:=(JQ.kB rK tK,())
def Bz.kL (rK:Dy.T) (n:Nat):Bz.KT:=Bd (Bz.kS rK) n
def Bz.k0 (rK:Dy.T) (tK:Bz.KT) (n:Int) (k0:CK) (k1:CT):PZ CK CT:=
 (C3.k n k0.t k0.num k0.funcs k0.globals k0.top k0.nodes k0.names k0.sigs k0.f k0.Gm k0.loops k0.SM k0.Qu k0.e k0.when k1).bind fun y3=>
 ci (y3.1.1.kind=3) (ci (y3.1.1.text=(38:UInt8)::[]) ((C3.k y3.1.1.a (Dop.HW.mk y3.2.1.1 y3.2.1.2.1 y3.2.1.2.2.1) y3.2.1.2.2.2.2.1 y3.2.1.2.2.2.2.2.1 y3.2.1.2.2.2.2.2.2.1 y3.2.1.2.2.2.2.2.2.2.1 y3.2.1.2.2.2.2.2.2.2.2.1 y3.2.1.2.2.2.2.2.2.2.2.2.1 y3.2.1.2.2.2.2.2.2.2.2.2.2.1 (Dop.Ey.mk y3.2.1.2.2.2.2.2.2.2.2.2.2.2.2.1 y3.2.1.2.2.2.2.2.2.2.2.2.2.2.2.2.1 y3.2.1.2.2.2.2.2.2.2.2.2.2.2.2.2.2.1 y3.2.1.2.2.2.2.2.2.2.2.2.2.2.2.2.2.2.1 y3.2.1.2.2.2.2.2.2.2.2.2.2.2.2.2.2.2.2.1) y3.2.1.2.2.2.2.2.2.2.2.2.2.2.2.2.2.2.2.2.1 y3.2.1.2.2.2.2.2.2.2.2.2.2.2.2.2.2.2.2.2.2.2.2.1 y3.2.1.2.2.2.2.2.2.2.2.2.2.2.2.2.2.2.2.2.2.2.2.2.1 y3.2.1.2.2.2.2.2.2.2.2.2.2.2.2.2.2.2.2.2.2.2.2.2.2.1 y3.2.1.2.2.2.2.2.2.2.2.2.2.2.2.2.2.2.2.2.2.2.2.2.2.2.1 y3.2.1.2.2.2.2.2.2.2.2.2.2.2.2.2.2.2.2.2.2.2.2.2.2.2.2.1 y3.2.2.1).bind fun y2=>
 ci (y2.1.1.kind=2) ((C3.k y3.1.1.a (Dop.HW.mk y2.2.1.1 y2.2.1.2.1 y2.2.1.2.2.1) y2.2.1.2.2.2.2.1 y2.2.1.2.2.2.2.2.1 y2.2.1.2.2.2.2.2.2.1 y2.2.1.2.2.2.2.2.2.2.1 y2.2.1.2.2.2.2.2.2.2.2.1 y2.2.1.2.2.2.2.2.2.2.2.2.1 y2.2.1.2.2.2.2.2.2.2.2.2.2.1 (Dop.Ey.mk y2.2.1.2.2.2.2.2.2.2.2.2.2.2.2.1 y2.2.1.2.2.2.2.2.2.2.2.2.2.2.2.2.1 y2.2.1.2.2.2.2.2.2.2.2.2.2.2.2.2.2.1 y2.2.1.2.2.2.2.2.2.2.2.2.2.2.2.2.2.2.1 y2.2.1.2.2.2.2.2.2.2.2.2.2.2.2.2.2.2.2.1) y2.2.1.2.2.2.2.2.2.2.2.2.2.2.2.2.2.2.2.2.1 y2.2.1.2.2.2.2.2.2.2.2.2.2.2.2.2.2.2.2.2.2.2.2.1 y2.2.1.2.2.2.2.2.2.2.2.2.2.2.2.2.2.2.2.2.2.2.2.2.1 y2.2.1.2.2.2.2.2.2.2.2.2.2.2.2.2.2.2.2.2.2.2.2.2.2.1 y2.2.1.2.2.2.2.2.2.2.2.2.2.2.2.2.2.2.2.2.2.2.2.2.2.2.1 y2.2.1.2.2.2.2.2.2.2.2.2.2.2.2.2.2.2.2.2.2.2.2.2.2.2.2.1 y2.2.2.1).bind fun y1=>
 ck (Al ((AT k0.taken y1.1.1.text).getD (0:Int)+1))<|
 tK.1 (Dop.cU.mk y3.1.1.a y3.1.1.b y3.1.1.c y3.1.1.d) 0 ((CK.Fi (CK.Wi (CK.Lo (CK.PJ (CK.Iq (CK.Me (CK.gg (CK.cG (CK.Jh (CK.Dl (CK.Eo (CK.VU (CK.Ip (CK.KU (CK.OF (CK.mv k0 (Dop.HW.mk y1.2.1.1 y1.2.1.2.1 y1.2.1.2.2.1)) y1.2.1.2.2.2.2.1) y1.2.1.2.2.2.2.2.1) y1.2.1.2.2.2.2.2.2.1) y1.2.1.2.2.2.2.2.2.2.1) y1.2.1.2.2.2.2.2.2.2.2.1) y1.2.1.2.2.2.2.2.2.2.2.2.1) y1.2.1.2.2.2.2.2.2.2.2.2.2.1) (Bc k0.taken y1.1.1.text ((AT k0.taken y1.1.1.text).getD (0:Int)+1))) (Dop.Ey.mk y1.2.1.2.2.2.2.2.2.2.2.2.2.2.2.1 y1.2.1.2.2.2.2.2.2.2.2.2.2.2.2.2.1 y1.2.1.2.2.2.2.2.2.2.2.2.2.2.2.2.2.1 y1.2.1.2.2.2.2.2.2.2.2.2.2.2.2.2.2.2.1 y1.2.1.2.2.2.2.2.2.2.2.2.2.2.2.2.2.2.2.1)) y1.2.1.2.2.2.2.2.2.2.2.2.2.2.2.2.2.2.2.2.1) y1.2.1.2.2.2.2.2.2.2.2.2.2.2.2.2.2.2.2.2.2.2.2.1) y1.2.1.2.2.2.2.2.2.2.2.2.2.2.2.2.2.2.2.2.2.2.2.2.1) y1.2.1.2.2.2.2.2.2.2.2.2.2.2.2.2.2.2.2.2.2.2.2.2.2.1) y1.2.1.2.2.2.2.2.2.2.2.2.2.2.2.2.2.2.2.2.2.2.2.2.2.2.1) y1.2.1.2.2.2.2.2.2.2.2.2.2.2.2.2.2.2.2.2.2.2.2.2.2.2.2.1)) y1.2.2.1)<|
 tK.1 (Dop.cU.mk y3.1.1.a y3.1.1.b y3.1.1.c y3.1.1.d) 0 ((CK.Fi (CK.Wi (CK.Lo (CK.PJ (CK.Iq (CK.Me (CK.gg (CK.Jh (CK.Dl (CK.Eo (CK.VU (CK.Ip (CK.KU (CK.OF (CK.mv k0 (Dop.HW.mk y2.2.1.1 y2.2.1.2.1 y2.2.1.2.2.1)) y2.2.1.2.2.2.2.1) y2.2.1.2.2.2.2.2.1) y2.2.1.2.2.2.2.2.2.1) y2.2.1.2.2.2.2.2.2.2.1) y2.2.1.2.2.2.2.2.2.2.2.1) y2.2.1.2.2.2.2.2.2.2.2.2.1) y2.2.1.2.2.2.2.2.2.2.2.2.2.1) (Dop.Ey.mk y2.2.1.2.2.2.2.2.2.2.2.2.2.2.2.1 y2.2.1.2.2.2.2.2.2.2.2.2.2.2.2.2.1 y2.2.1.2.2.2.2.2.2.2.2.2.2.2.2.2.2.1 y2.2.1.2.2.2.2.2.2.2.2.2.2.2.2.2.2.2.1 y2.2.1.2.2.2.2.2.2.2.2.2.2.2.2.2.2.2.2.1)) y2.2.1.2.2.2.2.2.2.2.2.2.2.2.2.2.2.2.2.2.1) y2.2.1.2.2.2.2.2.2.2.2.2.2.2.2.2.2.2.2.2.2.2.2.1) y2.2.1.2.2.2.2.2.2.2.2.2.2.2.2.2.2.2.2.2.2.2.2.2.1) y2.2.1.2.2.2.2.2.2.2.2.2.2.2.2.2.2.2.2.2.2.2.2.2.2.1) y2.2.1.2.2.2.2.2.2.2.2.2.2.2.2.2.2.2.2.2.2.2.2.2.2.2.1) y2.2.1.2.2.2.2.2.2.2.2.2.2.2.2.2.2.2.2.2.2.2.2.2.2.2.2.1)) y2.2.2.1)<|
 tK.1 (Dop.cU.mk y3.1.1.a y3.1.1.b y3.1.1.c y3.1.1.d) 0 ((CK.Fi (CK.Wi (CK.Lo (CK.PJ (CK.Iq (CK.Me (CK.gg (CK.Jh (CK.Dl (CK.Eo (CK.VU (CK.Ip (CK.KU (CK.OF (CK.mv k0 (Dop.HW.mk y3.2.1.1 y3.2.1.2.1 y3.2.1.2.2.1)) y3.2.1.2.2.2.2.1) y3.2.1.2.2.2.2.2.1) y3.2.1.2.2.2.2.2.2.1) y3.2.1.2.2.2.2.2.2.2.1) y3.2.1.2.2.2.2.2.2.2.2.1) y3.2.1.2.2.2.2.2.2.2.2.2.1) y3.2.1.2.2.2.2.2.2.2.2.2.2.1) (Dop.Ey.mk y3.2.1.2.2.2.2.2.2.2.2.2.2.2.2.1 y3.2.1.2.2.2.2.2.2.2.2.2.2.2.2.2.1 y3.2.1.2.2.2.2.2.2.2.2.2.2.2.2.2.2.1 y3.2.1.2.2.2.2.2.2.2.2.2.2.2.2.2.2.2.1 y3.2.1.2.2.2.2.2.2.2.2.2.2.2.2.2.2.2.2.1)) y3.2.1.2.2.2.2.2.2.2.2.2.2.2.2.2.2.2.2.2.1) y3.2.1.2.2.2.2.2.2.2.2.2.2.2.2.2.2.2.2.2.2.2.2.1) y3.2.1.2.2.2.2.2.2.2.2.2.2.2.2.2.2.2.2.2.2.2.2.2.1) y3.2.1.2.2.2.2.2.2.2.2.2.2.2.2.2.2.2.2.2.2.2.2.2.2.1) y3.2.1.2.2.2.2.2.2.2.2.2.2.2.2.2.2.2.2.2.2.2.2.2.2.2.1) y3.2.1.2.2.2.2.2.2.2.2.2.2.2.2.2.2.2.2.2.2.2.2.2.2.2.2.1)) y3.2.2.1)<|
 tK.1 (Dop.cU.mk y3.1.1.a y3.1.1.b y3.1.1.c y3.1.1.d) 0 ((CK.Fi (CK.Wi (CK.Lo (CK.PJ (CK.Iq (CK.Me (CK.gg (CK.Jh (CK.Dl (CK.Eo (CK.VU (CK.Ip (CK.KU (CK.OF (CK.mv k0 (Dop.HW.mk y3.2.1.1 y3.2.1.2.1 y3.2.1.2.2.1)) y3.2.1.2.2.2.2.1) y3.2.1.2.2.2.2.2.1) y3.2.1.2.2.2.2.2.2.1) y3.2.1.2.2.2.2.2.2.2.1) y3.2.1.2.2.2.2.2.2.2.2.1) y3.2.1.2.2.2.2.2.2.2.2.2.1) y3.2.1.2.2.2.2.2.2.2.2.2.2.1) (Dop.Ey.mk y3.2.1.2.2.2.2.2.2.2.2.2.2.2.2.1 y3.2.1.2.2.2.2.2.2.2.2.2.2.2.2.2.1 y3.2.1.2.2.2.2.2.2.2.2.2.2.2.2.2.2.1 y3.2.1.2.2.2.2.2.2.2.2.2.2.2.2.2.2.2.1 y3.2.1.2.2.2.2.2.2.2.2.2.2.2.2.2.2.2.2.1)) y3.2.1.2.2.2.2.2.2.2.2.2.2.2.2.2.2.2.2.2.1) y3.2.1.2.2.2.2.2.2.2.2.2.2.2.2.2.2.2.2.2.2.2.2.1) y3.2.1.2.2.2.2.2.2.2.2.2.2.2.2.2.2.2.2.2.2.2.2.2.1) y3.2.1.2.2.2.2.2.2.2.2.2.2.2.2.2.2.2.2.2.2.2.2.2.2.1) y3.2.1.2.2.2.2.2.2.2.2.2.2.2.2.2.2.2.2.2.2.2.2.2.2.2.1) y3.2.1.2.2.2.2.2.2.2.2.2.2.2.2.2.2.2.2.2.2.2.2.2.2.2.2.1)) y3.2.2.1
def Bz.kf (rK:Dy.T) (n:Int) (k0:CK) (k1:CT):PZ CK CT:=Bz.k0 rK (Bz.kL rK 1000000) n k0 k1
def Dy.kS (r:Dy.T):Dy.T:=(fun x=>Bz.kf r x.1.2.1 x.2.1 x.2.2.1,())
def Dy.kR (n:Nat):Dy.T:=Bd Dy.kS n
def Bz.Kc (n:Nat):=kd 56 Bz.p (Dy.kR n).1
def Bz.JE:=Bz.Kc FU
def Bz.k:=Bz.kr (Dy.kR FU)
def Dy.PY (n:Nat):List (BU Dop.D4):=[Bz.Kc n]
theorem Dy.Dx: ∀ n,(Bz.Kc n).Holds prog/\True
 | 0=>⟨AR AJ Bz.ok,trivial⟩
 | n+1=>by
  obtain ⟨h0,_⟩:=Dy.Dx n
  have hh: ∀ c∈Dy.PY n,c.Holds prog:=(hc h0 hn)
  exact ⟨GB AJ (Ad hh (hc C3.Kh hn)) Bz.ok (fun t x=>Bz.k0 (Dy.kR n) t x.1.2.1 x.2.1 x.2.2.1) (fun c=>(fun t45 t46 k0 k1=>c 4 Bz.q4 rfl (((),t45,t46,()),(k0,k1,())),())) (Bz.kS (Dy.kR n)) (by kernel_rfl),
   trivial⟩
theorem Bz.Hi:Bz.JE.Holds prog:=(Dy.Dx FU).1
def Hf.k (n:Int) (k0:CH) (k1:CT):R2 Dop.AV CH CT:=
 let A1:=Ar (Dop.AV.mk 0 (-1) (-1) (-1) (-1) [] 0 0 0) k0 k1
 ci (n<0) A1<|
 ci (I k0.t.nodes.length<=n) A1<|
 ck (0<=n/\n<I k0.t.nodes.length)<|
 Ar (List.getD k0.t.nodes n.toNat Dop.d5) k0 k1
def Hf.Kc:=kd 32 Hf.p fun x=>Hf.k x.1.2.1 x.2.1 x.2.2.1
theorem Hf.Kh:Hf.Kc.Holds prog:=kh AJ hn Hf.ok (by kernel_rfl)
def Dv.k (e n:Int) (k0:CH) (k1:CT):R2 Dop.BM CH CT:=
 let A1:=Dop.BM.mk (-1) 1 0 0 false
 ci (k0.e=0) ((Hf.k n k0 k1).bind fun y1=>
 Ar A1 (CH.Fi (CH.Wi y1.2.1 e) y1.1.1.at_) y1.2.2.1)<|
 Ar A1 k0 k1
def Dv.Kc:=kd 50 Dv.p fun x=>Dv.k x.1.2.1 x.1.2.2.1 x.2.1 x.2.2.1
theorem Dv.Kh:Dv.Kc.Holds prog:=kh AJ (hc Hf.Kh hn) Dv.ok (by kernel_rfl)
abbrev L6.T:Type:=Int->Int->Int->CH->CT->R2 Int CH CT
abbrev KB.T:Type:=Int->Int->Int->Int->Int->CH->CT->R2 Int CH CT
abbrev Ba.KT:Type:=L6.T×KB.T×Unit
def L6.kB (tK:Ba.KT):L6.T:=fun t1 t2 t7 k0 k1=>
 let A1:=List.getD k0.t.types t7.toNat Dop.d6
 let A2:=List.getD k0.num A1.elem.toNat 0
 let z1:R2 Int CH CT:=
 ck (0<=t1/\t1<I k0.num.length)<|
 ck (t1.toNat<k0.num.length)<|
 Ar (List.getD k0.num t1.toNat 0) k0 k1
 ci (t7<=t1) (ci (t7<I k0.t.types.length) (ck (0<=t7/\t7<I k0.t.types.length)<|
 ci (A1.kind=4) (ck (0<=A1.elem/\A1.elem<I k0.num.length)<|
 ck (A1.elem.toNat<k0.num.length)<|
 (JR.k A2 k1).bind fun y1=>
 tK.2.1 t1 t2 t7 y1.1.1 y1.1.2.1 k0 y1.2.1)<|
 ci (A1.kind=5) (ck (0<=A1.elem/\A1.elem<I k0.num.length)<|
 ck (A1.elem.toNat<k0.num.length)<|
 (Ky.k A2 (A1.n) k1).bind fun y1=>
 tK.2.1 t1 t2 t7 y1.1.1 y1.1.2.1 k0 y1.2.1)<|
 ci (A1.kind=6) ((JS.k (A1.name) k1).bind fun y1=>
 tK.2.1 t1 t2 t7 y1.1.1 y1.1.2.1 k0 y1.2.1)<|
 tK.2.1 t1 t2 t7 t7 0 k0 k1)<|
 z1)<|
 z1
def KB.kB (tK:Ba.KT):KB.T:=fun t1 t2 t7 t9 t10 k0 k1=>
 ci (!(t10=0)) ((Dv.k t10 t2 k0 k1).bind fun y1=>
 Ar 1 y1.2.1 y1.2.2.1)<|
 ck (Dc none (room 8 (k0.num.length+(t9::[]).length)))<|
 ck (Al (t7+1))<|
 tK.1 t1 t2 (t7+1) ((CH.OF k0 (k0.num++t9::[]))) k1
def Ba.kS (tK:Ba.KT):Ba.KT:=(L6.kB tK,KB.kB tK,())
def Ba.kL (n:Nat):Ba.KT:=Bd Ba.kS n
def Ba.k0 (tK:Ba.KT) (t1 t2:Int) (k0:CH) (k1:CT):R2 Int CH CT:=
 tK.1 t1 t2 (I k0.num.length) k0 k1
def Ba.k (t1 t2:Int) (k0:CH) (k1:CT):R2 Int CH CT:=Ba.k0 (Ba.kL 1000000) t1 t2 k0 k1
def Ba.Kc:=kd 48 Ba.p fun x=>Ba.k x.1.2.1 x.1.2.2.1 x.2.1 x.2.2.1
theorem Ba.Kh:Ba.Kc.Holds prog:=GB AJ (hc JR.Kh (hc Ky.Kh (hc JS.Kh (hc Dv.Kh hn)))) Ba.ok (fun t x=>Ba.k0 t x.1.2.1 x.1.2.2.1 x.2.1 x.2.2.1) (fun c=>(fun t1 t2 t7 k0 k1=>c 2 Ba.q2 rfl (((),t1,t2,t7,()),(k0,k1,())),fun t1 t2 t7 t9 t10 k0 k1=>c 13 Ba.aB rfl (((),t1,t2,t7,t9,t10,()),(k0,k1,())),())) Ba.kS (by kernel_rfl)
def IB.KE:Env Dop.D4:=AU prog 33 tb [Gu.Kc,Hf.Kc,Ba.Kc,G9.Kc,Dv.Kc] IB.p
def IB.k (x:Dop.AV) (n:Int) (k0:CH) (k1:CT):PZ CH CT:=IB.KE.Ei 3000 1000000 IB.p.sp (((),x,n,()),(k0,k1,()))
def IB.Kc:=kd 33 IB.p fun x=>IB.k x.1.2.1 x.1.2.2.1 x.2.1 x.2.2.1
theorem IB.Kh:IB.Kc.Holds prog:=kh AJ (hc Gu.Kh (hc Hf.Kh (hc Ba.Kh (hc G9.Kh (hc Dv.Kh hn))))) IB.ok (by kernel_rfl)
def GZ.k (t:Int) (k0:CH) (k1:CT):R2 Int CH CT:=
 (E8.k t k1).bind fun y1=>
 Ar y1.1.1.kind k0 y1.2.1
def GZ.Kc:=kd 54 GZ.p fun x=>GZ.k x.1.2.1 x.2.1 x.2.2.1
theorem GZ.Kh:GZ.Kc.Holds prog:=kh AJ (hc E8.Kh hn) GZ.ok (by kernel_rfl)
def H2.k (t:Int) (k0:CH) (k1:CT):R2 Bool CH CT:=
 (GZ.k t k0 k1).bind fun y1=>
 ci (y1.1.1=1) (Ar true y1.2.1 y1.2.2.1)<|
 ci (y1.1.1=2) (Ar true y1.2.1 y1.2.2.1)<|
 Ar (decide (y1.1.1=3)) y1.2.1 y1.2.2.1
def H2.Kc:=kd 52 H2.p fun x=>H2.k x.1.2.1 x.2.1 x.2.2.1
theorem H2.Kh:H2.Kc.Holds prog:=kh AJ (hc GZ.Kh hn) H2.ok (by kernel_rfl)
def IC.KE:Env Dop.D4:=AU prog 34 tb [Ba.Kc,Bq.JE,Dv.Kc,H2.Kc,Dz.Kc,GZ.Kc] IC.p
def IC.k (t1:Dop.AV) (t2:Int) (k0:CH) (k1:CT):PZ CH CT:=IC.KE.Ei 3000 1000000 IC.p.sp (((),t1,t2,()),(k0,k1,()))
def IC.Kc:=kd 34 IC.p fun x=>IC.k x.1.2.1 x.1.2.2.1 x.2.1 x.2.2.1
theorem IC.Kh:IC.Kc.Holds prog:=kh AJ (hc Ba.Kh (hc Bq.Hi (hc Dv.Kh (hc H2.Kh (hc Dz.Kh (hc GZ.Kh hn)))))) IC.ok (by kernel_rfl)
abbrev QQ.T:Type:=Int->List Int->CH->CT->Dop.AV->List Int->Int->PZ CH CT
abbrev MZ.T:Type:=Int->List Int->Int->Int->CH->CT->Dop.AV->List Int->Int->PZ CH CT
abbrev Dh.KT:Type:=QQ.T×MZ.T×Unit
def QQ.kB (tK:Dh.KT):QQ.T:=fun t2 t11 k0 k1 b2 b3_0 b3_1=>
 let z1:PZ CH CT:=
 (Dv.k 4 t2 k0 k1).bind fun y1=>
 tK.2.1 t2 t11 (I t11.length) 0 y1.2.1 y1.2.2.1 b2 b3_0 b3_1
 ci (k0.e=0) (ci (6<I t11.length) (z1)<|
 ci (I k0.sigs.length=64) (z1)<|
 tK.2.1 t2 t11 (I t11.length) 0 k0 k1 b2 b3_0 b3_1)<|
 tK.2.1 t2 t11 (I t11.length) 0 k0 k1 b2 b3_0 b3_1
def MZ.kB (tK:Dh.KT):MZ.T:=fun t2 t85 t86 t87 k0 k1 b2 b3_0 b3_1=>
 let A2:=List.getD t85 t87.toNat 0
 let A1:=CH.Jh k0 (Bc k0.sigs b2.text (Dop.Pa.mk b3_0 b3_1))
 ci (t87<t86) (ck (0<=t87/\t87<I t85.length)<|
 ck (t87.toNat<t85.length)<|
 (Hf.k A2 k0 k1).bind fun y4=>
 (Ba.k y4.1.1.Cj A2 y4.2.1 y4.2.2.1).bind fun y3=>
 ci (CH.e y3.2.1=0) ((D5.k y3.1.1 y3.2.2.1).bind fun y2=>
 ci (!y2.1.1) ((Dv.k 8 A2 y3.2.1 y2.2.1).bind fun y1=>
 ck (Dc none (room 8 (b3_0.length+(y3.1.1::[]).length)))<|
 ck (Al (t87+1))<|
 tK.2.1 t2 t85 t86 (t87+1) y1.2.1 y1.2.2.1 b2 (b3_0++y3.1.1::[]) b3_1)<|
 ck (Dc none (room 8 (b3_0.length+(y3.1.1::[]).length)))<|
 ck (Al (t87+1))<|
 tK.2.1 t2 t85 t86 (t87+1) y3.2.1 y2.2.1 b2 (b3_0++y3.1.1::[]) b3_1)<|
 ck (Dc none (room 8 (b3_0.length+(y3.1.1::[]).length)))<|
 ck (Al (t87+1))<|
 tK.2.1 t2 t85 t86 (t87+1) y3.2.1 y3.2.2.1 b2 (b3_0++y3.1.1::[]) b3_1)<|
 ci (k0.e=0) (ci (!(b3_1=0)) ((D5.k b3_1 k1).bind fun y2=>
 ci (!y2.1.1) ((Dv.k 8 t2 k0 y2.2.1).bind fun y1=>
 Wg (CH.Jh y1.2.1 (Bc (CH.sigs y1.2.1) b2.text (Dop.Pa.mk b3_0 b3_1))) y1.2.2.1)<|
 Wg A1 y2.2.1)<|
 Wg A1 k1)<|
 Wg A1 k1
def Dh.kS (tK:Dh.KT):Dh.KT:=(QQ.kB tK,MZ.kB tK,())
def Dh.kL (n:Nat):Dh.KT:=Bd Dh.kS n
def Dh.k0 (tK:Dh.KT) (t1:Dop.AV) (t2:Int) (k0:CH) (k1:CT):PZ CH CT:=
 (Ba.k t1.Cj t2 k0 k1).bind fun y3=>
 ck ((0:Int)<=0/\0<I (CH.names y3.2.1).length)<|
 ck (Int.toNat 0<(CH.names y3.2.1).length)<|
 ck (Int.toNat 0<(CH.names y3.2.1).length)<|
 (Gu.k (CH.t y3.2.1) t1.a).bind fun y2=>
 let z1:PZ CH CT:=
 (Dv.k 7 t2 y3.2.1 y3.2.2.1).bind fun y1=>
 tK.1 t2 y2.1.1 y1.2.1 y1.2.2.1 t1 [] y3.1.1
 ci (CH.e y3.2.1=0) (ci ((AT (CH.sigs y3.2.1) t1.text).isSome) (z1)<|
 ci ((AT (List.getD (CH.names y3.2.1) (Int.toNat 0) (([]:List (List UInt8×Dop.EB)))) t1.text).isSome) (z1)<|
 tK.1 t2 y2.1.1 y3.2.1 y3.2.2.1 t1 [] y3.1.1)<|
 tK.1 t2 y2.1.1 y3.2.1 y3.2.2.1 t1 [] y3.1.1
def Dh.k (t1:Dop.AV) (t2:Int) (k0:CH) (k1:CT):PZ CH CT:=Dh.k0 (Dh.kL 1000000) t1 t2 k0 k1
def Dh.Kc:=kd 35 Dh.p fun x=>Dh.k x.1.2.1 x.1.2.2.1 x.2.1 x.2.2.1
theorem Dh.Kh:Dh.Kc.Holds prog:=GB AJ (hc Ba.Kh (hc Gu.Kh (hc Dv.Kh (hc Hf.Kh (hc D5.Kh hn))))) Dh.ok (fun t x=>Dh.k0 t x.1.2.1 x.1.2.2.1 x.2.1 x.2.2.1) (fun c=>(fun t2 t11 k0 k1 b2 b3_0 b3_1=>c 7 Dh.q7 rfl (((),t2,(),(),t11,()),(k0,k1,(b2,()),(b3_0,b3_1,()),())),fun t2 t85 t86 t87 k0 k1 b2 b3_0 b3_1=>c 10 Dh.WK rfl (((),t2,(),(),t85,t86,t87,()),(k0,k1,(b2,()),(b3_0,b3_1,()),())),())) Dh.kS (by kernel_rfl)
def KD.k (n:Int) (k0:CK) (k1:CT):R2 Int CK CT:=
 ci (n<0) (Ar (-1) k0 k1)<|
 (A9.k n k0 k1).bind fun y1=>
 Ar y1.1.1.n y1.2.1 y1.2.2.1
def KD.Kc:=kd 96 KD.p fun x=>KD.k x.1.2.1 x.2.1 x.2.2.1
theorem KD.Kh:KD.Kc.Holds prog:=kh AJ (hc A9.Hi hn) KD.ok (by kernel_rfl)
def KF.k (x:Dop.AV) (n:Int) (k0:CK) (k1:CT):R2 Int CK CT:=
 ci (x.a<0) ((Cr.k 37 ((-1)) ((-1)) ((-1)) ((-1)) 0 [] k0 k1).bind C8)<|
 (B1.k x.a k0 k1).bind fun y3=>
 let z1:R2 Int CK CT:=
 (CS.k y3.1.1 (CK.Gm y3.2.1) n false y3.2.1 y3.2.2.1).bind fun y2=>
 (Cr.k 37 y2.1.1 ((-1)) ((-1)) ((-1)) 0 [] y2.2.1 y2.2.2.1).bind C8
 ci (CK.e y3.2.1=0) (ci (CK.Gm y3.2.1=0) ((BB.k 8 n y3.2.1 y3.2.2.1).bind fun y1=>
 Ar y1.1.1.n y1.2.1 y1.2.2.1)<|
 z1)<|
 z1
def KF.Kc:=kd 99 KF.p fun x=>KF.k x.1.2.1 x.1.2.2.1 x.2.1 x.2.2.1
theorem KF.Kh:KF.Kc.Holds prog:=kh AJ (hc Cr.Kh (hc B1.Hi (hc BB.Kh (hc CS.Kh hn)))) KF.ok (by kernel_rfl)
def JU.KE:Env Dop.D4:=AU prog 103 tb [DM.Kc,B1.JE,HA.Kc,D5.Kc,BB.Kc,Cr.Kc,E9.Kc,HC.Kc,CS.Kc,Hb.Kc] JU.p
def JU.k (t1:Dop.AV) (t2:Int) (k0:CK) (k1:CT):R2 Int CK CT:=JU.KE.Ei 3000 1000000 JU.p.sp (((),t1,t2,()),(k0,k1,()))
def JU.Kc:=kd 103 JU.p fun x=>JU.k x.1.2.1 x.1.2.2.1 x.2.1 x.2.2.1
theorem JU.Kh:JU.Kc.Holds prog:=kh AJ (hc DM.Kh (hc B1.Hi (hc HA.Kh (hc D5.Kh (hc BB.Kh (hc Cr.Kh (hc E9.Kh (hc HC.Kh (hc CS.Kh (hc Hb.Kh hn)))))))))) JU.ok (by kernel_rfl)
abbrev Br.kr (r:Cl.T) (t1:Int) (k0:CK) (k1:CT):R2 Int CK CT:=r.1 (((),t1,()),(k0,k1,()))
abbrev HG.kr (r:Cl.T) (n:Int) (k0:CK) (k1:CT):R2 Int CK CT:=r.2.1 (((),n,()),(k0,k1,()))
abbrev HZ.kr (r:Cl.T) (x:Dop.AV) (n:Int) (k0:CK) (k1:CT):R2 Int CK CT:=r.2.2.1 (((),x,n,()),(k0,k1,()))
abbrev DN.kr (r:Cl.T) (k1:CK) (k2:CT) (b3:Dop.AV):Option ((Int×Unit)×((Unit×Unit)×CK×CT×(Dop.AV×Unit)×Unit)):=r.2.2.2.1 (((),(),()),(((),()),k1,k2,(b3,()),()))
abbrev L8.T:Type:=Int->CK->CT->Dop.AV->R2 Int CK CT
abbrev L9.T:Type:=Int->Int->CK->CT->Dop.AV->R2 Int CK CT
abbrev Br.KT:Type:=L8.T×L9.T×Unit
def L8.kB (rK:Cl.T) (tK:Br.KT):L8.T:=fun t1 k0 k1 b3=>
 let z1:R2 Int CK CT:=
 let z2:R2 Int CK CT:=
 (Cr.k b3.kind ((-1)) ((-1)) ((-1)) ((-1)) 0 [] k0 k1).bind C8
 ci (b3.kind=36) (ci (k0.loops=0) ((BB.k 9 t1 k0 k1).bind fun y1=>
 Ar y1.1.1.n y1.2.1 y1.2.2.1)<|
 z2)<|
 z2
 ci (b3.kind=35) (ci (k0.Qu=0) ((BB.k 9 t1 k0 k1).bind fun y1=>
 Ar y1.1.1.n y1.2.1 y1.2.2.1)<|
 z1)<|
 z1
def L9.kB (rK:Cl.T) (tK:Br.KT):L9.T:=fun t1 t27 k0 k1 b3=>
 let A2:=(HZ.kr rK b3 t1 k0 k1).bind C8
 let A1:=Bc k0.labels b3.text ((AT k0.labels b3.text).getD (0:Int)+1)
 let z1:R2 Int CK CT:=
 ci (t27=43) (ck (room 8 (k0.names.length+1))<|
 (DN.kr rK ((CK.Dl k0 (k0.names++([]:List (List UInt8×Dop.EB))::[]))) k1 b3).bind fun y1=>
 ck (Al (I (CK.names y1.2.2.1).length -1))<|
 ck (0<=I (CK.names y1.2.2.1).length -1/\I (CK.names y1.2.2.1).length -1<=I (CK.names y1.2.2.1).length)<|
 Ar y1.1.1 (CK.Dl y1.2.2.1 (List.take (I (CK.names y1.2.2.1).length -1).toNat (CK.names y1.2.2.1))) y1.2.2.2.1)<|
 ci (t27=45) ((JU.k b3 t1 k0 k1).bind C8)<|
 (Cr.k 44 ((-1)) ((-1)) ((-1)) ((-1)) 0 [] k0 k1).bind C8
 ci (t27=37) ((KF.k b3 t1 k0 k1).bind C8)<|
 ci (t27=38) (ci (!(AT k0.gotos b3.text).isSome) ((Cr.k 38 ((-1)) ((-1)) ((-1)) ((-1)) 0 b3.text ((CK.cE k0 (Bc k0.gotos b3.text t1))) k1).bind C8)<|
 (Cr.k 38 ((-1)) ((-1)) ((-1)) ((-1)) 0 b3.text k0 k1).bind C8)<|
 ci (t27=39) (ck (Al ((AT k0.labels b3.text).getD (0:Int)+1))<|
 ci (1<(AT A1 b3.text).getD 0) ((BB.k 9 t1 ((CK.SF k0 A1)) k1).bind fun y1=>
 Ar y1.1.1.n y1.2.1 y1.2.2.1)<|
 (Br.kr rK b3.a ((CK.SF k0 A1)) k1).bind fun y2=>
 (Cr.k 39 y2.1.1 ((-1)) ((-1)) ((-1)) 0 b3.text y2.2.1 y2.2.2.1).bind C8)<|
 ci (t27=40) ((B1.k b3.a k0 k1).bind fun y3=>
 ck (room 8 ((CK.SM y3.2.1).length+1))<|
 ck (Al (CK.Qu y3.2.1+1))<|
 (Br.kr rK b3.b ((CK.Lo (CK.PJ y3.2.1 (CK.SM y3.2.1++([]:List (Int×Int))::[])) (CK.Qu y3.2.1+1))) y3.2.2.1).bind fun y2=>
 ck (Al (CK.Qu y2.2.1 -1))<|
 ck (Al (I (CK.SM y2.2.1).length -1))<|
 ck (0<=I (CK.SM y2.2.1).length -1/\I (CK.SM y2.2.1).length -1<=I (CK.SM y2.2.1).length)<|
 (Cr.k 40 y3.1.1.n y2.1.1 ((-1)) ((-1)) 0 [] ((CK.Lo (CK.PJ y2.2.1 (List.take (I (CK.SM y2.2.1).length -1).toNat (CK.SM y2.2.1))) (CK.Qu y2.2.1 -1))) y2.2.2.1).bind C8)<|
 ci (t27=41) (ci (t27=41) A2<|
 z1)<|
 ci (t27=42) A2<|
 z1
def Br.kS (rK:Cl.T) (tK:Br.KT):Br.KT:=(L8.kB rK tK,L9.kB rK tK,())
def Br.kL (rK:Cl.T) (n:Nat):Br.KT:=Bd (Br.kS rK) n
def Br.k0 (rK:Cl.T) (tK:Br.KT) (t1:Int) (k0:CK) (k1:CT):R2 Int CK CT:=
 (MY.k t1 k0 k1).bind fun y6=>
 ci (!(CK.e y6.2.1=0)) (Ar (-1) y6.2.1 y6.2.2.1)<|
 ci (y6.1.1.kind=30) ((KD.k y6.1.1.a y6.2.1 y6.2.2.1).bind fun y2=>
 (Cr.k 30 y2.1.1 ((-1)) ((-1)) ((-1)) 0 [] y2.2.1 y2.2.2.1).bind C8)<|
 ci (y6.1.1.kind=31) ((B1.k y6.1.1.a y6.2.1 y6.2.2.1).bind fun y4=>
 (Br.kr rK y6.1.1.b y4.2.1 y4.2.2.1).bind fun y3=>
 ci (0<=y6.1.1.c) ((Br.kr rK y6.1.1.c y3.2.1 y3.2.2.1).bind fun y2=>
 (Cr.k 31 y4.1.1.n y3.1.1 y2.1.1 ((-1)) 0 [] y2.2.1 y2.2.2.1).bind C8)<|
 (Cr.k 31 y4.1.1.n y3.1.1 ((-1)) ((-1)) 0 [] y3.2.1 y3.2.2.1).bind C8)<|
 ci (y6.1.1.kind=32) ((B1.k y6.1.1.a y6.2.1 y6.2.2.1).bind fun y3=>
 (HG.kr rK y6.1.1.b y3.2.1 y3.2.2.1).bind fun y2=>
 (Cr.k 32 y3.1.1.n y2.1.1 ((-1)) ((-1)) 0 [] y2.2.1 y2.2.2.1).bind C8)<|
 ci (y6.1.1.kind=33) ((HG.kr rK y6.1.1.b y6.2.1 y6.2.2.1).bind fun y3=>
 (B1.k y6.1.1.a y3.2.1 y3.2.2.1).bind fun y2=>
 (Cr.k 33 y2.1.1.n y3.1.1 ((-1)) ((-1)) 0 [] y2.2.1 y2.2.2.1).bind C8)<|
 ci (y6.1.1.kind=34) ((KD.k y6.1.1.a y6.2.1 y6.2.2.1).bind fun y5=>
 ci (0<=y6.1.1.b) ((B1.k y6.1.1.b y5.2.1 y5.2.2.1).bind fun y4=>
 (KD.k y6.1.1.c y4.2.1 y4.2.2.1).bind fun y3=>
 (HG.kr rK y6.1.1.d y3.2.1 y3.2.2.1).bind fun y2=>
 (Cr.k 34 y5.1.1 y4.1.1.n y3.1.1 y2.1.1 0 [] y2.2.1 y2.2.2.1).bind C8)<|
 (KD.k y6.1.1.c y5.2.1 y5.2.2.1).bind fun y3=>
 (HG.kr rK y6.1.1.d y3.2.1 y3.2.2.1).bind fun y2=>
 (Cr.k 34 y5.1.1 ((-1)) y3.1.1 y2.1.1 0 [] y2.2.1 y2.2.2.1).bind C8)<|
 ci (y6.1.1.kind=35) (ci (y6.1.1.kind=35) (tK.1 t1 y6.2.1 y6.2.2.1 y6.1.1)<|
 tK.2.1 t1 y6.1.1.kind y6.2.1 y6.2.2.1 y6.1.1)<|
 ci (y6.1.1.kind=36) (tK.1 t1 y6.2.1 y6.2.2.1 y6.1.1)<|
 tK.2.1 t1 y6.1.1.kind y6.2.1 y6.2.2.1 y6.1.1
def Br.kf (rK:Cl.T) (t1:Int) (k0:CK) (k1:CT):R2 Int CK CT:=Br.k0 rK (Br.kL rK 1000000) t1 k0 k1
def HG.kf (rK:Cl.T) (n:Int) (k0:CK) (k1:CT):R2 Int CK CT:=
 ck (Al (k0.loops+1))<|
 ck (Al (k0.Qu+1))<|
 (Br.kr rK n ((CK.Lo (CK.Iq k0 (k0.loops+1)) (k0.Qu+1))) k1).bind fun y1=>
 ck (Al (CK.loops y1.2.1 -1))<|
 ck (Al (CK.Qu y1.2.1 -1))<|
 Ar y1.1.1 (CK.Lo (CK.Iq y1.2.1 (CK.loops y1.2.1 -1)) (CK.Qu y1.2.1 -1)) y1.2.2.1
def HZ.kf (rK:Cl.T) (x:Dop.AV) (n:Int) (k0:CK) (k1:CT):R2 Int CK CT:=(AU (S:=Dop.D4) prog 100 tb (Cl.ct rK++[Dz.Kc,BB.Kc,Cr.Kc]) HZ.p).Ei 3000 1000000 HZ.p.sp (((),x,n,()),(k0,k1,()))
abbrev QH.T:Type:=List Int->List Int->Int->Int->CK->CT->Dop.AV->Option ((Int×Unit)×((Unit×Unit)×CK×CT×(Dop.AV×Unit)×Unit))
abbrev DN.KT:Type:=QH.T×Unit
def QH.kB (rK:Cl.T) (tK:DN.KT):QH.T:=fun l t12 t13 t14 k1 k2 b3=>
 ci (t14<t13) (ck (0<=t14/\t14<I t12.length)<|
 ck (t14.toNat<t12.length)<|
 (Br.kr rK (List.getD t12 t14.toNat 0) k1 k2).bind fun y1=>
 ck (Dc none (room 8 (l.length+(y1.1.1::[]).length)))<|
 ck (Al (t14+1))<|
 tK.1 (l++y1.1.1::[]) t12 t13 (t14+1) y1.2.1 y1.2.2.1 b3)<|
 (Ai.k l k1 k2).bind fun y2=>
 (Cr.k 43 y2.1.1 ((-1)) ((-1)) ((-1)) 0 [] y2.2.1 y2.2.2.1).bind fun y1=>
 some ((y1.1.1,()),(((),()),(y1.2.1,(y1.2.2.1,((b3,()),())))))
def DN.kS (rK:Cl.T) (tK:DN.KT):DN.KT:=(QH.kB rK tK,())
def DN.kL (rK:Cl.T) (n:Nat):DN.KT:=Bd (DN.kS rK) n
def DN.k0 (rK:Cl.T) (tK:DN.KT) (k1:CK) (k2:CT) (b3:Dop.AV):Option ((Int×Unit)×((Unit×Unit)×CK×CT×(Dop.AV×Unit)×Unit)):=
 (Gu.k k1.t b3.a).bind fun y1=>
 tK.1 [] y1.1.1 (I y1.1.1.length) 0 k1 k2 b3
def DN.kf (rK:Cl.T) (k1:CK) (k2:CT) (b3:Dop.AV):Option ((Int×Unit)×((Unit×Unit)×CK×CT×(Dop.AV×Unit)×Unit)):=DN.k0 rK (DN.kL rK 1000000) k1 k2 b3
def Cl.kS (r:Cl.T):Cl.T:=(fun x=>Br.kf r x.1.2.1 x.2.1 x.2.2.1,fun x=>HG.kf r x.1.2.1 x.2.1 x.2.2.1,fun x=>HZ.kf r x.1.2.1 x.1.2.2.1 x.2.1 x.2.2.1,fun x=>DN.kf r x.2.2.1 x.2.2.2.1 x.2.2.2.2.1.1,())
def Cl.kR (n:Nat):Cl.T:=Bd Cl.kS n
def Br.Kc (n:Nat):=kd 62 Br.p (Cl.kR n).1
def Br.JE:=Br.Kc FU
def Br.k:=Br.kr (Cl.kR FU)
def HG.Kc (n:Nat):=kd 98 HG.p (Cl.kR n).2.1
def HZ.Kc (n:Nat):=kd 100 HZ.p (Cl.kR n).2.2.1
def DN.Kc (n:Nat):=kd 102 DN.p (Cl.kR n).2.2.2.1
def Cl.PY (n:Nat):List (BU Dop.D4):=[Br.Kc n,HG.Kc n,HZ.Kc n,DN.Kc n]
theorem Cl.Dx: ∀ n,(Br.Kc n).Holds prog/\(HG.Kc n).Holds prog/\(HZ.Kc n).Holds prog/\(DN.Kc n).Holds prog/\True
 | 0=>⟨AR AJ Br.ok,AR AJ HG.ok,AR AJ HZ.ok,AR AJ DN.ok,trivial⟩
 | n+1=>by
  obtain ⟨h0,h1,h2,h3,_⟩:=Cl.Dx n
  have hh: ∀ c∈Cl.PY n,c.Holds prog:=(hc h0 (hc h1 (hc h2 (hc h3 hn))))
  exact ⟨GB AJ (Ad hh (hc MY.Kh (hc KD.Kh (hc Cr.Kh (hc B1.Hi (hc BB.Kh (hc KF.Kh (hc JU.Kh hn)))))))) Br.ok (fun t x=>Br.k0 (Cl.kR n) t x.1.2.1 x.2.1 x.2.2.1) (fun c=>(fun t1 k0 k1 b3=>c 27 Br.o8 rfl ((t1,(),(),()),(k0,k1,((),()),(b3,()),())),fun t1 t27 k0 k1 b3=>c 30 Br.o9 rfl ((t1,(),(),t27,()),(k0,k1,((),()),(b3,()),())),())) (Br.kS (Cl.kR n)) (by kernel_rfl),
   kh AJ (Ad hh hn) HG.ok (by kernel_rfl),
   kh AJ (Ad hh (hc Dz.Kh (hc BB.Kh (hc Cr.Kh hn)))) HZ.ok (by kernel_rfl),
   GB AJ (Ad hh (hc Gu.Kh (hc Ai.Kh (hc Cr.Kh hn)))) DN.ok (fun t x=>DN.k0 (Cl.kR n) t x.2.2.1 x.2.2.2.1 x.2.2.2.2.1.1) (fun c=>(fun l t12 t13 t14 k1 k2 b3=>c 3 DN.q3 rfl (((),l,t12,t13,t14,()),(((),()),k1,k2,(b3,()),())),())) (DN.kS (Cl.kR n)) (by kernel_rfl),
   trivial⟩
theorem Br.Hi:Br.JE.Holds prog:=(Cl.Dx FU).1
end
end Go.Proofs.Tryz
