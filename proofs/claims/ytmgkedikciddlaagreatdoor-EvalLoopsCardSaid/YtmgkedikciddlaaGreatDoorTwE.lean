/-
 Functions in plain words (what their equations say), and their contracts. Written by a program.
-/
import Derived.Test.YtmgkedikciddlaaGreatDoorMt
import Derived.Test.YtmgkedikciddlaaGreatDoorMp
set_option linter.all false
set_option maxRecDepth 100000
set_option maxHeartbeats 4000000
namespace Go.Proofs.Tryz
open Go Go.En
noncomputable section
def Yb.k (f:Dop.DE) (b0:List UInt8):R1 Bool (List UInt8×Unit):=
 Co (decide (f.name=b0)) (b0,())
def Yb.Kc:=kd 34 Yb.p fun x=>Yb.k x.1.1 x.2.1.1
theorem Yb.Kh:Yb.Kc.Holds prog:=kh AI hn Yb.ok (by kernel_rfl)
abbrev KB.T:Type:=List Dop.DE->Int->Int->List UInt8->R1 Int (List UInt8×Unit)
abbrev BV.KT:Type:=KB.T×Unit
def KB.kB (tK:BV.KT):KB.T:=fun s t7 t8 b0=>
 ci (t8<t7) (ck (0<=t8/\t8<I s.length)<|
 (Yb.k (List.getD s t8.toNat Dop.d11) b0).bind fun y3=>
 ci y3.1.1 (Co t8 (y3.2.1.1,()))<|
 ck (BI (t8+1))<|
 tK.1 s t7 (t8+1) y3.2.1.1)<|
 Co (-1) (b0,())
def BV.kS (tK:BV.KT):BV.KT:=(KB.kB tK,())
def BV.kL (n:Nat):BV.KT:=Bp BV.kS n
def BV.k0 (tK:BV.KT) (s:List Dop.DE) (b0:List UInt8):R1 Int (List UInt8×Unit):=
 tK.1 s (I s.length) 0 b0
def BV.k (s:List Dop.DE) (b0:List UInt8):R1 Int (List UInt8×Unit):=BV.k0 (BV.kL 1000000) s b0
def BV.Kc:=kd 33 BV.p fun x=>BV.k x.1.1 x.2.1.1
theorem BV.Kh:BV.Kc.Holds prog:=Fx AI (hc Yb.Kh hn) BV.ok (fun t x=>BV.k0 t x.1.1 x.2.1.1) (fun c=>(fun s t7 t8 b0=>c 2 BV.q2 rfl ((s,(),t7,t8,()),((b0,()),())),())) BV.kS (by kernel_rfl)
def Se.k (p:Dop.Gu) (name:List UInt8):Fs Int:=
 (BV.k p.funcs name).bind nt
def Se.Kc:=kd 16 Se.p fun x=>Se.k x.1.1 x.1.2.1
theorem Se.Kh:Se.Kc.Holds prog:=kh AI (hc BV.Kh hn) Se.ok (by kernel_rfl)
def NU.k (end_ code:Int) (k0:ER):R1 Int ER:=
 ci (k0.end_=0) (Co 0 (ER.gK (ER.gL k0 end_) code))<|
 Co 0 k0
def NU.Kc:=kd 17 NU.p fun x=>NU.k x.1.2.1 x.1.2.2.1 x.2.1
theorem NU.Kh:NU.Kc.Holds prog:=kh AI hn NU.ok (by kernel_rfl)
def NI.k (p:Dop.Gu) (n:Int):Fs Dop.Ab:=
 let A1:=Cn (Dop.Ab.mk 0 (-1) (-1) (-1) (-1) [] 0 0 0)
 ci (n<0) A1<|
 ci (I p.nodes.length<=n) A1<|
 ck (0<=n/\n<I p.nodes.length)<|
 Cn (List.getD p.nodes n.toNat Dop.d5)
def NI.Kc:=kd 126 NI.p fun x=>NI.k x.1.1 x.1.2.1
theorem NI.Kh:NI.Kc.Holds prog:=kh AI hn NI.ok (by kernel_rfl)
abbrev QD.T:Type:=Int->List Int->Int->Int->Dop.Gu->Fs (List Int)
abbrev C3.KT:Type:=QD.T×Unit
def QD.kB (tK:C3.KT):QD.T:=fun n out t9 t10 b0=>
 ci (t10<t9) ((NI.k b0 n).bind fun y3=>
 ci (!(y3.1.1.kind=20)) (Cn out)<|
 ck (DG none (room 8 (out.length+(y3.1.1.a::[]).length)))<|
 ck (BI (t10+1))<|
 tK.1 y3.1.1.b (out++y3.1.1.a::[]) t9 (t10+1) b0)<|
 Cn out
def C3.kS (tK:C3.KT):C3.KT:=(QD.kB tK,())
def C3.kL (n:Nat):C3.KT:=Bp C3.kS n
def C3.k0 (tK:C3.KT) (p:Dop.Gu) (n:Int):Fs (List Int):=
 tK.1 n [] (I p.nodes.length) 0 p
def C3.k (p:Dop.Gu) (n:Int):Fs (List Int):=C3.k0 (C3.kL 1000000) p n
def C3.Kc:=kd 105 C3.p fun x=>C3.k x.1.1 x.1.2.1
theorem C3.Kh:C3.Kc.Holds prog:=Fx AI (hc NI.Kh hn) C3.ok (fun t x=>C3.k0 t x.1.1 x.1.2.1) (fun c=>(fun n out t9 t10 b0=>c 3 C3.q3 rfl ((n,(),out,t9,t10,()),((b0,()),())),())) C3.kS (by kernel_rfl)
abbrev Bj.kr (r:Cy.T) (t1:Int) (k0:ER) (k1:EF):R2 Bool ER EF:=r.1 (((),t1,(),()),(k0,k1,()))
abbrev Cu.kr (r:Cy.T) (s:List Int) (k1:ER) (k3:EF):Option ((Bool×Unit)×((Unit×Unit)×ER×(Unit×Unit)×EF×Unit)):=r.2.1 ((s,(),()),(((),()),k1,((),()),k3,()))
abbrev Aj.kr (r:Cy.T) (s:List Int) (k1:ER) (k3:EF):Option ((Int×Unit)×((Unit×Unit)×ER×(Unit×Unit)×EF×Unit)):=r.2.2.1 ((s,(),()),(((),()),k1,((),()),k3,()))
abbrev Lf.kr (r:Cy.T) (s:Int) (k1:ER) (k3:EF):Option ((Bool×Unit)×((Unit×Unit)×ER×(Unit×Unit)×EF×Unit)):=r.2.2.2.1 ((s,(),(),()),(((),()),k1,((),()),k3,()))
abbrev QG.T:Type:=ER->EF->Dop.Ab->R2 Bool ER EF
abbrev L1.T:Type:=Int->ER->EF->Dop.Ab->R2 Bool ER EF
abbrev Bj.KT:Type:=QG.T×L1.T×Unit
def QG.kB (rK:Cy.T) (tK:Bj.KT):QG.T:=fun k0 k1 b4=>
 let A1:=Bj.kr rK b4.a k0 k1
 ci (k1.CN=2) (ci (b4.kind=41) (ci (b4.n=k1.key) (Aa true k0 k1)<|
 ci (k1.CN=3) (ci (b4.kind=42) (Aa true k0 k1)<|
 A1.bind BQ)<|
 A1.bind BQ)<|
 ci (k1.CN=3) (ci (b4.kind=42) (Aa true k0 k1)<|
 A1.bind BQ)<|
 A1.bind BQ)<|
 ci (k1.CN=3) (ci (b4.kind=42) (Aa true k0 k1)<|
 A1.bind BQ)<|
 A1.bind BQ
def L1.kB (rK:Cy.T) (tK:Bj.KT):L1.T:=fun t19 k0 k1 b4=>
 let A1:=Bj.kr rK b4.b k0 k1
 let z1:R2 Bool ER EF:=
 ci (t19=34) ((Bj.kr rK b4.d k0 k1).bind BQ)<|
 ci (t19=43) ((C3.k k0.p b4.a).bind fun y8=>
 (Cu.kr rK y8.1.1 k0 k1).bind fun y9=>
 Aa y9.1.1 y9.2.2.1 y9.2.2.2.2.1)<|
 Aa false k0 k1
 ci (t19=40) (ci (k1.CN=1) (A1.bind BQ)<|
 Aa false k0 k1)<|
 ci (t19=31) (A1.bind fun y4=>
 ci y4.1.1 (Aa true y4.2.1 y4.2.2.1)<|
 (Bj.kr rK b4.c y4.2.1 y4.2.2.1).bind BQ)<|
 ci (t19=32) (ci (t19=32) (A1.bind BQ)<|
 z1)<|
 ci (t19=33) (A1.bind BQ)<|
 z1
def Bj.kS (rK:Cy.T) (tK:Bj.KT):Bj.KT:=(QG.kB rK tK,L1.kB rK tK,())
def Bj.kL (rK:Cy.T) (n:Nat):Bj.KT:=Bp (Bj.kS rK) n
def Bj.k0 (rK:Cy.T) (tK:Bj.KT) (t1:Int) (k0:ER) (k1:EF):R2 Bool ER EF:=
 let A1:=List.getD k0.p.nodes t1.toNat Dop.d5
 let A2:=Bj.kr rK (A1.a) k0 k1
 ci (t1<0) (Aa false k0 k1)<|
 ck (0<=t1/\t1<I k0.p.nodes.length)<|
 ci (A1.kind=39) (ci (k1.CN=1) (ci (A1.text=k1.nV) (Aa true k0 k1)<|
 A2.bind BQ)<|
 A2.bind BQ)<|
 ci (A1.kind=41) (ci (A1.kind=41) (tK.1 k0 k1 A1)<|
 tK.2.1 (A1.kind) k0 k1 A1)<|
 ci (A1.kind=42) (tK.1 k0 k1 A1)<|
 tK.2.1 (A1.kind) k0 k1 A1
def Bj.kf (rK:Cy.T) (t1:Int) (k0:ER) (k1:EF):R2 Bool ER EF:=Bj.k0 rK (Bj.kL rK 1000000) t1 k0 k1
def Cu.kf (rK:Cy.T) (s:List Int) (k1:ER) (k3:EF):Option ((Bool×Unit)×((Unit×Unit)×ER×(Unit×Unit)×EF×Unit)):=
 (Aj.kr rK s k1 k3).bind fun y2=>
 some ((decide (0<=y2.1.1),()),(((),()),(y2.2.2.1,(((),()),(y2.2.2.2.2.1,())))))
abbrev G9.T:Type:=List Int->Int->Int->ER->EF->Option ((Int×Unit)×((Unit×Unit)×ER×(Unit×Unit)×EF×Unit))
abbrev Aj.KT:Type:=G9.T×Unit
def G9.kB (rK:Cy.T) (tK:Aj.KT):G9.T:=fun s t7 t8 k1 k3=>
 ci (t8<t7) (ck (0<=t8/\t8<I s.length)<|
 ck (t8.toNat<s.length)<|
 (Lf.kr rK (List.getD s t8.toNat 0) k1 k3).bind fun y3=>
 ci y3.1.1 (some ((t8,()),(((),()),(y3.2.2.1,(((),()),(y3.2.2.2.2.1,()))))))<|
 ck (BI (t8+1))<|
 tK.1 s t7 (t8+1) y3.2.2.1 y3.2.2.2.2.1)<|
 some (((-1),()),(((),()),(k1,(((),()),(k3,())))))
def Aj.kS (rK:Cy.T) (tK:Aj.KT):Aj.KT:=(G9.kB rK tK,())
def Aj.kL (rK:Cy.T) (n:Nat):Aj.KT:=Bp (Aj.kS rK) n
def Aj.k0 (rK:Cy.T) (tK:Aj.KT) (s:List Int) (k1:ER) (k3:EF):Option ((Int×Unit)×((Unit×Unit)×ER×(Unit×Unit)×EF×Unit)):=
 tK.1 s (I s.length) 0 k1 k3
def Aj.kf (rK:Cy.T) (s:List Int) (k1:ER) (k3:EF):Option ((Int×Unit)×((Unit×Unit)×ER×(Unit×Unit)×EF×Unit)):=Aj.k0 rK (Aj.kL rK 1000000) s k1 k3
def Lf.kf (rK:Cy.T) (s:Int) (k1:ER) (k3:EF):Option ((Bool×Unit)×((Unit×Unit)×ER×(Unit×Unit)×EF×Unit)):=
 (Bj.kr rK s k1 k3).bind fun y2=>
 some ((y2.1.1,()),(((),()),(y2.2.1,(((),()),(y2.2.2.1,())))))
def Cy.kS (r:Cy.T):Cy.T:=(fun x=>Bj.kf r x.1.2.1 x.2.1 x.2.2.1,fun x=>Cu.kf r x.1.1 x.2.2.1 x.2.2.2.2.1,fun x=>Aj.kf r x.1.1 x.2.2.1 x.2.2.2.2.1,fun x=>Lf.kf r x.1.1 x.2.2.1 x.2.2.2.2.1,())
def Cy.kR (n:Nat):Cy.T:=Bp Cy.kS n
def Bj.Kc (n:Nat):=kd 62 Bj.p (Cy.kR n).1
def Bj.LZ:=Bj.Kc FU
def Bj.k:=Bj.kr (Cy.kR FU)
def Cu.Kc (n:Nat):=kd 104 Cu.p (Cy.kR n).2.1
def Aj.Kc (n:Nat):=kd 125 Aj.p (Cy.kR n).2.2.1
def Lf.Kc (n:Nat):=kd 106 Lf.p (Cy.kR n).2.2.2.1
def Cy.Si (n:Nat):List (B2 Dop.D4):=[Bj.Kc n,Cu.Kc n,Aj.Kc n,Lf.Kc n]
theorem Cy.FD: ∀ n,(Bj.Kc n).Holds prog/\(Cu.Kc n).Holds prog/\(Aj.Kc n).Holds prog/\(Lf.Kc n).Holds prog/\True
 | 0=>⟨AP AI Bj.ok,AP AI Cu.ok,AP AI Aj.ok,AP AI Lf.ok,trivial⟩
 | n+1=>by
  obtain ⟨h0,h1,h2,h3,_⟩:=Cy.FD n
  have hh: ∀ c∈Cy.Si n,c.Holds prog:=(hc h0 (hc h1 (hc h2 (hc h3 hn))))
  exact ⟨Fx AI (Af hh (hc C3.Kh hn)) Bj.ok (fun t x=>Bj.k0 (Cy.kR n) t x.1.2.1 x.2.1 x.2.2.1) (fun c=>(fun k0 k1 b4=>c 9 Bj.q9 rfl (((),(),(),()),(k0,k1,((),()),((),()),(b4,()),())),fun t19 k0 k1 b4=>c 10 Bj.VE rfl (((),(),(),t19,()),(k0,k1,((),()),((),()),(b4,()),())),())) (Bj.kS (Cy.kR n)) (by kernel_rfl),
   kh AI (Af hh hn) Cu.ok (by kernel_rfl),
   Fx AI (Af hh hn) Aj.ok (fun t x=>Aj.k0 (Cy.kR n) t x.1.1 x.2.2.1 x.2.2.2.2.1) (fun c=>(fun s t7 t8 k1 k3=>c 2 Aj.q2 rfl ((s,(),t7,t8,()),(((),()),k1,((),()),k3,())),())) (Aj.kS (Cy.kR n)) (by kernel_rfl),
   kh AI (Af hh hn) Lf.ok (by kernel_rfl),
   trivial⟩
theorem Bj.Ip:Bj.LZ.Holds prog:=(Cy.FD FU).1
def Fe.k (k0:ER):R1 Bool ER:=
 ci (!(k0.end_=0)) (Co false k0)<|
 ci (k0.fuel=0) ((NU.k 4 0 k0).bind fun y4=>
 Co false y4.2.1)<|
 ck (BI (k0.fuel -1))<|
 Co true (ER.gM k0 (k0.fuel -1))
def Fe.Kc:=kd 32 Fe.p fun x=>Fe.k x.2.1
theorem Fe.Kh:Fe.Kc.Holds prog:=kh AI (hc NU.Kh hn) Fe.ok (by kernel_rfl)
def Fq.k (n:Int):Fs Int:=
 ck (BI (IntKind.u32.wrap n))<|
 Cn (IntKind.u32.wrap n)
def Fq.Kc:=kd 190 Fq.p fun x=>Fq.k x.1.1
theorem Fq.Kh:Fq.Kc.Holds prog:=kh AI hn Fq.ok (by kernel_rfl)
def Dm.k (n:Int):MZ Int Bool:=
 (Er.k n).bind fun y2=>
 Ev y2.1.1 true
def Dm.Kc:=kd 191 Dm.p fun x=>Dm.k x.1.1
theorem Dm.Kh:Dm.Kc.Holds prog:=kh AI (hc Er.Kh hn) Dm.ok (by kernel_rfl)
abbrev QO.T:Type:=PI Int Int Bool
abbrev EC.KT:Type:=QO.T×Unit
def QO.kB (tK:EC.KT):QO.T:=
 HJ 0 0 false
def EC.kS (tK:EC.KT):EC.KT:=(QO.kB tK,())
def EC.kL (n:Nat):EC.KT:=Bp EC.kS n
def EC.k0 (tK:EC.KT) (a b:Int):PI Int Int Bool:=
 ci (b=0) (tK.1)<|
 ck (b≠0/\BI (a.tdiv b)=true)<|
 ck (b≠0)<|
 HJ (a.tdiv b) (a.tmod b) true
def EC.k (a b:Int):PI Int Int Bool:=EC.k0 (EC.kL 1000000) a b
def EC.Kc:=kd 192 EC.p fun x=>EC.k x.1.1 x.1.2.1
theorem EC.Kh:EC.Kc.Holds prog:=Fx AI hn EC.ok (fun t x=>EC.k0 t x.1.1 x.1.2.1) (fun c=>(c 3 EC.q3 rfl ((),()),())) EC.kS (by kernel_rfl)
def Gh.k (is:Bool):Fs Int:=
 ci is (Cn 1)<|
 Cn 0
def Gh.Kc:=kd 193 Gh.p fun x=>Gh.k x.1.1
theorem Gh.Kh:Gh.Kc.Holds prog:=kh AI hn Gh.ok (by kernel_rfl)
abbrev MD.T:Type:=Int->Int->Int->MZ Int Bool
abbrev MF.T:Type:=Int->Int->Int->Int->MZ Int Bool
abbrev ME.T:Type:=Int->Bool->MZ Int Bool
abbrev MG.T:Type:=Int->Int->Int->MZ Int Bool
abbrev MI.T:Type:=Int->Int->Int->MZ Int Bool
abbrev MH.T:Type:=Int->Bool->MZ Int Bool
abbrev A0.KT:Type:=MD.T×MF.T×ME.T×MG.T×MI.T×MH.T×Unit
def MD.kB (tK:A0.KT):MD.T:=fun o t1 t2=>
 (EC.k t1 t2).bind fun y2=>
 ci (o=5) (tK.2.2.1 y2.1.2.1 y2.1.2.2.1)<|
 tK.2.2.1 y2.1.1 y2.1.2.2.1
def MF.kB (tK:A0.KT):MF.T:=fun o t1 t2 t19=>
 ci (t19=6) (ci (t19=6) (tK.2.2.2.1 o t1 t2)<|
 tK.2.2.2.2.1 t1 t2 t19)<|
 ci (t19=7) (tK.2.2.2.1 o t1 t2)<|
 tK.2.2.2.2.1 t1 t2 t19
def ME.kB (tK:A0.KT):ME.T:=fun t9 t11=>
 (Er.k t9).bind fun y2=>
 Ev y2.1.1 t11
def MG.kB (tK:A0.KT):MG.T:=fun o t1 t2=>
 (Fq.k t1).bind fun y2=>
 (Fq.k t2).bind fun y3=>
 (EC.k y2.1.1 y3.1.1).bind fun y4=>
 ci (o=7) (tK.2.2.2.2.2.1 y4.1.2.1 y4.1.2.2.1)<|
 tK.2.2.2.2.2.1 y4.1.1 y4.1.2.2.1
def MI.kB (tK:A0.KT):MI.T:=fun t1 t2 t19=>
 let A1:=bits BinOp.and IntKind.i64 t2 31
 ci (t19=8) ((Dm.k (bits BinOp.and IntKind.i64 t1 t2)).bind MM)<|
 ci (t19=9) ((Dm.k (bits BinOp.or IntKind.i64 t1 t2)).bind MM)<|
 ci (t19=10) ((Dm.k (bits BinOp.xor IntKind.i64 t1 t2)).bind MM)<|
 ci (t19=11) (ck (0<=bits BinOp.and IntKind.i64 t2 31/\bits BinOp.and IntKind.i64 t2 31<=I IntKind.i64.bits)<|
 (Dm.k (IntKind.i64.wrap (t1*2 ^ A1.toNat))).bind MM)<|
 ci (t19=12) (ck (0<=bits BinOp.and IntKind.i64 t2 31/\bits BinOp.and IntKind.i64 t2 31<=I IntKind.i64.bits)<|
 (Dm.k (t1 / 2 ^ A1.toNat)).bind MM)<|
 ci (t19=13) ((Fq.k t1).bind fun y8=>
 ck (0<=bits BinOp.and IntKind.i64 t2 31/\bits BinOp.and IntKind.i64 t2 31<=I IntKind.i64.bits)<|
 (Dm.k (y8.1.1 / 2 ^ A1.toNat)).bind MM)<|
 ci (t19=14) ((Gh.k (decide (t1=t2))).bind fun y9=>
 (Dm.k y9.1.1).bind MM)<|
 ci (t19=15) ((Gh.k (!decide (t1=t2))).bind fun y10=>
 (Dm.k y10.1.1).bind MM)<|
 ci (t19=16) ((Gh.k (decide (t1<t2))).bind fun y11=>
 (Dm.k y11.1.1).bind MM)<|
 ci (t19=17) ((Gh.k (decide (t1<=t2))).bind fun y12=>
 (Dm.k y12.1.1).bind MM)<|
 ci (t19=18) ((Fq.k t1).bind fun y13=>
 (Fq.k t2).bind fun y14=>
 (Gh.k (decide (y13.1.1<y14.1.1))).bind fun y15=>
 (Dm.k y15.1.1).bind MM)<|
 ci (t19=19) ((Fq.k t1).bind fun y14=>
 (Fq.k t2).bind fun y15=>
 (Gh.k (decide (y14.1.1<=y15.1.1))).bind fun y16=>
 (Dm.k y16.1.1).bind MM)<|
 ci (t19=20) (ck (BI (-t1))<|
 (Dm.k (-t1)).bind MM)<|
 ci (t19=21) ((Dm.k (bits BinOp.xor IntKind.i64 (-1) t1)).bind MM)<|
 ci (t19=22) ((Dm.k (bits BinOp.and IntKind.i64 t1 255)).bind MM)<|
 ci (t19=23) ((Gh.k (decide (t1=0))).bind fun y18=>
 (Dm.k y18.1.1).bind MM)<|
 Ev 0 false
def MH.kB (tK:A0.KT):MH.T:=fun t12 t14=>
 (Er.k t12).bind fun y2=>
 Ev y2.1.1 t14
def A0.kS (tK:A0.KT):A0.KT:=(MD.kB tK,MF.kB tK,ME.kB tK,MG.kB tK,MI.kB tK,MH.kB tK,())
def A0.kL (n:Nat):A0.KT:=Bp A0.kS n
def A0.k0 (tK:A0.KT) (o t1 t2:Int):MZ Int Bool:=
 (Er.k t1).bind fun y2=>
 (Er.k t2).bind fun y3=>
 ci (o=1) (ck (BI (y2.1.1+y3.1.1))<|
 (Dm.k (y2.1.1+y3.1.1)).bind MM)<|
 ci (o=2) (ck (BI (y2.1.1 -y3.1.1))<|
 (Dm.k (y2.1.1 -y3.1.1)).bind MM)<|
 ci (o=3) (ck (BI (y2.1.1*y3.1.1))<|
 (Dm.k (y2.1.1*y3.1.1)).bind MM)<|
 ci (o=4) (ci (o=4) (tK.1 o y2.1.1 y3.1.1)<|
 tK.2.1 o y2.1.1 y3.1.1 o)<|
 ci (o=5) (tK.1 o y2.1.1 y3.1.1)<|
 tK.2.1 o y2.1.1 y3.1.1 o
def A0.k (o t1 t2:Int):MZ Int Bool:=A0.k0 (A0.kL 1000000) o t1 t2
def A0.Kc:=kd 161 A0.p fun x=>A0.k x.1.1 x.1.2.1 x.1.2.2.1
theorem A0.Kh:A0.Kc.Holds prog:=Fx AI (hc Er.Kh (hc Dm.Kh (hc EC.Kh (hc Fq.Kh (hc Gh.Kh hn))))) A0.ok (fun t x=>A0.k0 t x.1.1 x.1.2.1 x.1.2.2.1) (fun c=>(fun o t1 t2=>c 12 A0.nw rfl ((o,t1,t2,()),()),fun o t1 t2 t19=>c 16 A0.fx rfl ((o,t1,t2,(),t19,()),()),fun t9 t11=>c 15 A0.fw rfl ((t9,t11,()),()),fun o t1 t2=>c 18 A0.kH rfl ((o,t1,t2,()),()),fun t1 t2 t19=>c 22 A0.kI rfl ((t1,t2,(),t19,()),()),fun t12 t14=>c 21 A0.mA rfl ((t12,t14,()),()),())) A0.kS (by kernel_rfl)
def J7.k (is:Bool):Fs Int:=
 ci is (Cn 1)<|
 Cn 0
def J7.Kc:=kd 130 J7.p fun x=>J7.k x.1.1
theorem J7.Kh:J7.Kc.Holds prog:=kh AI hn J7.ok (by kernel_rfl)
abbrev LM.T:Type:=List Int->List Int->Int->Int->Fs Bool
abbrev Iv.KT:Type:=LM.T×Unit
def LM.kB (tK:Iv.KT):LM.T:=fun s1 s2 t12 t13=>
 ci (t13<t12) (ck (0<=t13/\t13<I s1.length)<|
 ck (0<=t13/\t13<I s2.length)<|
 ci (!(List.getD s1 t13.toNat 0=List.getD s2 t13.toNat 0)) (Cn false)<|
 ck (BI (t13+1))<|
 tK.1 s1 s2 t12 (t13+1))<|
 Cn true
def Iv.kS (tK:Iv.KT):Iv.KT:=(LM.kB tK,())
def Iv.kL (n:Nat):Iv.KT:=Bp Iv.kS n
def Iv.k0 (tK:Iv.KT) (s1 s2:List Int):Fs Bool:=
 ci (!(I s1.length=I s2.length)) (Cn false)<|
 tK.1 s1 s2 (I s1.length) 0
def Iv.k (s1 s2:List Int):Fs Bool:=Iv.k0 (Iv.kL 1000000) s1 s2
def Iv.Kc:=kd 11 Iv.p fun x=>Iv.k x.1.1 x.1.2.1
theorem Iv.Kh:Iv.Kc.Holds prog:=Fx AI hn Iv.ok (fun t x=>Iv.k0 t x.1.1 x.1.2.1) (fun c=>(fun s1 s2 t12 t13=>c 4 Iv.q4 rfl ((s1,s2,t12,t13,()),()),())) Iv.kS (by kernel_rfl)
def V1.k (a b:Dop.PJ):Fs Bool:=
 ci (a.end_=b.end_) (ci (a.code=b.code) ((Iv.k a.output b.output).bind nt)<|
 Cn false)<|
 Cn false
def V1.Kc:=kd 6 V1.p fun x=>V1.k x.1.1 x.1.2.1
theorem V1.Kh:V1.Kc.Holds prog:=kh AI (hc Iv.Kh hn) V1.ok (by kernel_rfl)
abbrev m64.kr (r:A6.T) (t1:Int) (t2:List Int) (k0:ER):R1 Int ER:=r.1 (((),t1,t2,()),(k0,()))
abbrev Ct.kr (r:A6.T) (n:Int) (k0:ER) (k1:EF):R2 Int ER EF:=r.2.1 (((),n,(),()),(k0,k1,()))
abbrev BA.kr (r:A6.T) (t1:Dop.Ab) (k0:ER) (k1:EF):R2 Int ER EF:=r.2.2.1 (((),t1,(),()),(k0,k1,()))
abbrev BB.kr (r:A6.T) (t1:Int) (k0:ER) (k1:EF):R2 Int ER EF:=r.2.2.2.1 (((),t1,(),()),(k0,k1,()))
abbrev Ge.kr (r:A6.T) (x:Dop.Ab) (k0:ER) (k1:EF):R2 Int ER EF:=r.2.2.2.2.1 (((),x,(),()),(k0,k1,()))
abbrev Ee.kr (r:A6.T) (n:Int) (k1:ER) (k3:EF):Option ((Int×Unit)×((Unit×Unit)×ER×(Unit×Unit)×EF×Unit)):=r.2.2.2.2.2.1 ((n,(),(),()),(((),()),k1,((),()),k3,()))
abbrev Gf.kr (r:A6.T) (x:Dop.Ab) (k0:ER) (k1:EF):R2 Int ER EF:=r.2.2.2.2.2.2.1 (((),x,(),()),(k0,k1,()))
abbrev Aq.kr (r:A6.T) (t1:Dop.Ab) (k0:ER) (k1:EF):R2 Int ER EF:=r.2.2.2.2.2.2.2.1 (((),t1,(),()),(k0,k1,()))
abbrev HW.kr (r:A6.T) (x:Dop.Ab) (k0:ER) (k1:EF):R2 Int ER EF:=r.2.2.2.2.2.2.2.2.1 (((),x,(),()),(k0,k1,()))
abbrev LN.T:Type:=ER->Dop.DE->EF->R1 Int ER
abbrev C9.T:Type:=ER->Dop.DE->EF->R1 Int ER
abbrev m64.KT:Type:=LN.T×C9.T×Unit
def LN.kB (rK:A6.T) (tK:m64.KT):LN.T:=fun k0 b1 k2=>
 (Ct.kr rK b1.body k0 k2).bind fun y2=>
 ci (y2.1.1=4) ((Fe.k y2.2.1).bind fun y4=>
 ci y4.1.1 (tK.2.1 y4.2.1 b1 ((EF.JX y2.2.2.1 1)))<|
 ck (BI (ER.sp y4.2.1 -b1.frame))<|
 Co (EF.told y2.2.2.1) (ER.ZX y4.2.1 (ER.sp y4.2.1 -b1.frame)))<|
 ck (BI (ER.sp y2.2.1 -b1.frame))<|
 Co (EF.told y2.2.2.1) (ER.ZX y2.2.1 (ER.sp y2.2.1 -b1.frame))
def C9.kB (rK:A6.T) (tK:m64.KT):C9.T:=fun k0 b1 k2=>
 (Ct.kr rK b1.body k0 k2).bind fun y2=>
 ci (y2.1.1=4) ((Fe.k y2.2.1).bind fun y4=>
 ci y4.1.1 (tK.2.1 y4.2.1 b1 ((EF.JX y2.2.2.1 1)))<|
 ck (BI (ER.sp y4.2.1 -b1.frame))<|
 Co (EF.told y2.2.2.1) (ER.ZX y4.2.1 (ER.sp y4.2.1 -b1.frame)))<|
 ck (BI (ER.sp y2.2.1 -b1.frame))<|
 Co (EF.told y2.2.2.1) (ER.ZX y2.2.1 (ER.sp y2.2.1 -b1.frame))
def m64.kS (rK:A6.T) (tK:m64.KT):m64.KT:=(LN.kB rK tK,C9.kB rK tK,())
def m64.kL (rK:A6.T) (n:Nat):m64.KT:=Bp (m64.kS rK) n
def m64.k0 (rK:A6.T) (tK:m64.KT) (t1:Int) (t2:List Int) (k0:ER):R1 Int ER:=
 let A1:=List.getD k0.p.funcs t1.toNat Dop.d11
 let A3:=BI (k0.sp+A1.frame)
 let A2:=List.replicate A1.Ai.toNat (0:Int)
 ci (!(k0.end_=0)) (Co 0 k0)<|
 ci (t1<0) (Co 0 k0)<|
 ck (0<=t1/\t1<I k0.p.funcs.length)<|
 ck A3<|
 ci (I k0.mem.length<k0.sp+A1.frame) ((NU.k 3 0 k0).bind ML)<|
 ck (0<=A1.Ai/\A1.Ai<=A1.Ai/\A1.Ai*(I (8:Nat)+1)<=140737488355328)<|
 ck A3<|
 tK.1 ((ER.ZX k0 (k0.sp+A1.frame))) A1 ((List.getD k0.p.funcs t1.toNat Dop.d11,List.take A2.length t2++List.drop t2.length A2,k0.sp,0,[],0,0,()))
def m64.kf (rK:A6.T) (t1:Int) (t2:List Int) (k0:ER):R1 Int ER:=m64.k0 rK (m64.kL rK 1000000) t1 t2 k0
def Ct.kf (rK:A6.T) (n:Int) (k0:ER) (k1:EF):R2 Int ER EF:=
 ci (!(k1.CN=0)) ((Bj.k n k0 k1).bind fun y3=>
 ci (!y3.1.1) (Aa 0 y3.2.1 y3.2.2.1)<|
 ci (EF.CN y3.2.2.1=0) ((Fe.k y3.2.1).bind fun y6=>
 ci (!y6.1.1) (Aa 5 y6.2.1 y3.2.2.1)<|
 ck (0<=n/\n<I (ER.p y6.2.1).nodes.length)<|
 (BA.kr rK (List.getD (ER.p y6.2.1).nodes n.toNat Dop.d5) y6.2.1 y3.2.2.1).bind fun y8=>
 ci (!(ER.end_ y8.2.1=0)) (Aa 5 y8.2.1 y8.2.2.1)<|
 Aa y8.1.1 y8.2.1 y8.2.2.1)<|
 ck (0<=n/\n<I (ER.p y3.2.1).nodes.length)<|
 (BA.kr rK (List.getD (ER.p y3.2.1).nodes n.toNat Dop.d5) y3.2.1 y3.2.2.1).bind fun y6=>
 ci (!(ER.end_ y6.2.1=0)) (Aa 5 y6.2.1 y6.2.2.1)<|
 Aa y6.1.1 y6.2.1 y6.2.2.1)<|
 ci (k1.CN=0) ((Fe.k k0).bind fun y4=>
 ci (!y4.1.1) (Aa 5 y4.2.1 k1)<|
 ck (0<=n/\n<I (ER.p y4.2.1).nodes.length)<|
 (BA.kr rK (List.getD (ER.p y4.2.1).nodes n.toNat Dop.d5) y4.2.1 k1).bind fun y6=>
 ci (!(ER.end_ y6.2.1=0)) (Aa 5 y6.2.1 y6.2.2.1)<|
 Aa y6.1.1 y6.2.1 y6.2.2.1)<|
 ck (0<=n/\n<I k0.p.nodes.length)<|
 (BA.kr rK (List.getD k0.p.nodes n.toNat Dop.d5) k0 k1).bind fun y4=>
 ci (!(ER.end_ y4.2.1=0)) (Aa 5 y4.2.1 y4.2.2.1)<|
 Aa y4.1.1 y4.2.1 y4.2.2.1
abbrev Dg.T:Type:=Int->ER->EF->Dop.Ab->R2 Int ER EF
abbrev L2.T:Type:=ER->EF->Dop.Ab->R2 Int ER EF
abbrev IY.T:Type:=Int->ER->EF->Dop.Ab->R2 Int ER EF
abbrev Ek.T:Type:=List Int->Int->Int->ER->EF->R2 Int ER EF
abbrev BA.KT:Type:=Dg.T×L2.T×IY.T×Ek.T×Unit
def Dg.kB (rK:A6.T) (tK:BA.KT):Dg.T:=fun t11 k0 k1 b2=>
 let A1:=Ct.kr rK b2.a k0 k1
 ci (t11=35) (Aa 1 k0 k1)<|
 ci (t11=36) (Aa 2 k0 k1)<|
 ci (t11=37) (ci (0<=b2.a) ((BB.kr rK b2.a k0 k1).bind fun y6=>
 Aa 3 y6.2.1 (EF.T9 y6.2.2.1 y6.1.1))<|
 Aa 3 k0 k1)<|
 ci (t11=38) (Aa 4 k0 (EF.dc k1 b2.text))<|
 ci (t11=39) (ci (k1.CN=1) (ci (k1.nV=b2.text) ((Ct.kr rK b2.a k0 ((EF.JX k1 0))).bind BQ)<|
 A1.bind BQ)<|
 A1.bind BQ)<|
 ci (t11=41) (ci (t11=41) (tK.2.1 k0 k1 b2)<|
 tK.2.2.1 t11 k0 k1 b2)<|
 ci (t11=42) (tK.2.1 k0 k1 b2)<|
 tK.2.2.1 t11 k0 k1 b2
def L2.kB (rK:A6.T) (tK:BA.KT):L2.T:=fun k0 k1 b2=>
 let A2:=Ct.kr rK b2.a k0 k1
 let A1:=(Ct.kr rK b2.a k0 ((EF.JX k1 0))).bind BQ
 ci (k1.CN=2) (ci (b2.kind=41) (ci (b2.n=k1.key) A1<|
 ci (k1.CN=3) (ci (b2.kind=42) A1<|
 A2.bind BQ)<|
 A2.bind BQ)<|
 ci (k1.CN=3) (ci (b2.kind=42) A1<|
 A2.bind BQ)<|
 A2.bind BQ)<|
 ci (k1.CN=3) (ci (b2.kind=42) A1<|
 A2.bind BQ)<|
 A2.bind BQ
def IY.kB (rK:A6.T) (tK:BA.KT):IY.T:=fun t11 k0 k1 b2=>
 ci (t11=40) ((HW.kr rK b2 k0 k1).bind BQ)<|
 ci (t11=43) ((C3.k k0.p b2.a).bind fun y4=>
 tK.2.2.2.1 y4.1.1 (I y4.1.1.length) 0 k0 k1)<|
 Aa 0 k0 k1
def Ek.kB (rK:A6.T) (tK:BA.KT):Ek.T:=fun t182 t183 t184 k0 k1=>
 ci (t184<t183) (ck (0<=t184/\t184<I t182.length)<|
 ck (t184.toNat<t182.length)<|
 (Ct.kr rK (List.getD t182 t184.toNat 0) k0 k1).bind fun y3=>
 ci (!(y3.1.1=0)) (Aa y3.1.1 y3.2.1 y3.2.2.1)<|
 ck (BI (t184+1))<|
 tK.2.2.2.1 t182 t183 (t184+1) y3.2.1 y3.2.2.1)<|
 Aa 0 k0 k1
def BA.kS (rK:A6.T) (tK:BA.KT):BA.KT:=(Dg.kB rK tK,L2.kB rK tK,IY.kB rK tK,Ek.kB rK tK,())
def BA.kL (rK:A6.T) (n:Nat):BA.KT:=Bp (BA.kS rK) n
def BA.k0 (rK:A6.T) (tK:BA.KT) (t1:Dop.Ab) (k0:ER) (k1:EF):R2 Int ER EF:=
 let A2:=BB.kr rK t1.a k0 k1
 let A1:=(Aq.kr rK t1 k0 k1).bind BQ
 ci (t1.kind=30) (ci (0<=t1.a) (A2.bind fun y4=>
 Aa 0 y4.2.1 y4.2.2.1)<|
 Aa 0 k0 k1)<|
 ci (t1.kind=31) (ci (!(k1.CN=0)) ((Bj.k t1.b k0 k1).bind fun y5=>
 ci y5.1.1 ((Ct.kr rK t1.b y5.2.1 y5.2.2.1).bind BQ)<|
 (Ct.kr rK t1.c y5.2.1 y5.2.2.1).bind BQ)<|
 A2.bind fun y5=>
 ci (!(y5.1.1=0)) ((Ct.kr rK t1.b y5.2.1 y5.2.2.1).bind BQ)<|
 ci (0<=t1.c) (ci (ER.end_ y5.2.1=0) ((Ct.kr rK t1.c y5.2.1 y5.2.2.1).bind BQ)<|
 Aa 0 y5.2.1 y5.2.2.1)<|
 Aa 0 y5.2.1 y5.2.2.1)<|
 ci (t1.kind=32) (ci (t1.kind=32) A1<|
 tK.1 t1.kind k0 k1 t1)<|
 ci (t1.kind=33) (ci (t1.kind=33) A1<|
 tK.1 t1.kind k0 k1 t1)<|
 ci (t1.kind=34) A1<|
 tK.1 t1.kind k0 k1 t1
def BA.kf (rK:A6.T) (t1:Dop.Ab) (k0:ER) (k1:EF):R2 Int ER EF:=BA.k0 rK (BA.kL rK 1000000) t1 k0 k1
abbrev FI.T:Type:=Int->ER->EF->Dop.Ab->R2 Int ER EF
abbrev FJ.T:Type:=Int->ER->EF->Dop.Ab->R2 Int ER EF
abbrev Fz.T:Type:=List Int->List Int->Int->Int->ER->EF->Dop.Ab->R2 Int ER EF
abbrev BB.KT:Type:=FI.T×FJ.T×Fz.T×Unit
def FI.kB (rK:A6.T) (tK:BB.KT):FI.T:=fun t28 k0 k1 b4=>
 let A1:=(Gf.kr rK b4 k0 k1).bind BQ
 ci (t28=6) ((Ee.kr rK b4.a k0 k1).bind fun y3=>
 ci (ER.end_ y3.2.2.1=0) (ck (0<=b4.n/\b4.n<I (EF.Ai y3.2.2.2.2.1).length)<|
 ck (b4.n.toNat<(EF.Ai y3.2.2.2.2.1).length)<|
 Aa y3.1.1 y3.2.2.1 (EF.T8 y3.2.2.2.2.1 ((EF.Ai y3.2.2.2.2.1).set b4.n.toNat y3.1.1)))<|
 Aa y3.1.1 y3.2.2.1 y3.2.2.2.2.1)<|
 ci (t28=7) (ci (t28=7) A1<|
 tK.2.1 t28 k0 k1 b4)<|
 ci (t28=8) A1<|
 tK.2.1 t28 k0 k1 b4
def FJ.kB (rK:A6.T) (tK:BB.KT):FJ.T:=fun t28 k0 k1 b3=>
 let A2:=List.getD k0.input (Int.toNat 0) 0
 let A1:=Ee.kr rK b3.a k0 k1
 ci (t28=9) (A1.bind fun y3=>
 ci (!(y3.1.1=0)) ((Ee.kr rK b3.b y3.2.2.1 y3.2.2.2.2.1).bind fun y5=>
 Aa y5.1.1 y5.2.2.1 y5.2.2.2.2.1)<|
 (Ee.kr rK b3.c y3.2.2.1 y3.2.2.2.2.1).bind fun y5=>
 Aa y5.1.1 y5.2.2.1 y5.2.2.2.2.1)<|
 ci (t28=10) (A1.bind fun y4=>
 ci (!(y4.1.1=0)) ((Ee.kr rK b3.b y4.2.2.1 y4.2.2.2.2.1).bind fun y6=>
 (J7.k (!decide (y6.1.1=0))).bind fun y7=>
 Aa y7.1.1 y6.2.2.1 y6.2.2.2.2.1)<|
 (J7.k false).bind fun y6=>
 Aa y6.1.1 y4.2.2.1 y4.2.2.2.2.1)<|
 ci (t28=11) (A1.bind fun y5=>
 ci (!(y5.1.1=0)) ((J7.k true).bind fun y7=>
 Aa y7.1.1 y5.2.2.1 y5.2.2.2.2.1)<|
 (Ee.kr rK b3.b y5.2.2.1 y5.2.2.2.2.1).bind fun y7=>
 (J7.k (!decide (y7.1.1=0))).bind fun y8=>
 Aa y8.1.1 y7.2.2.1 y7.2.2.2.2.1)<|
 ci (t28=12) ((C3.k k0.p b3.a).bind fun y6=>
 tK.2.2.1 [] y6.1.1 (I y6.1.1.length) 0 k0 k1 b3)<|
 ci (t28=13) (ci (I k0.input.length=0) (Aa (-1) k0 k1)<|
 ck ((0:Int)<=0/\0<I k0.input.length)<|
 ck ((0:Int)<=1/\1<=I k0.input.length/\I k0.input.length<=I k0.input.length)<|
 ck (BI A2)<|
 Aa A2 (ER.cQ k0 (List.drop (Int.toNat 1) (List.take (I k0.input.length).toNat k0.input))) k1)<|
 ci (t28=14) (A1.bind fun y8=>
 ci (ER.end_ y8.2.2.1=0) (ck (DG none (room 1 ((ER.out y8.2.2.1).length+(IntKind.u8.wrap (bits BinOp.and IntKind.i64 y8.1.1 255)::[]).length)))<|
 Aa (bits BinOp.and IntKind.i64 y8.1.1 255) (ER.kQ y8.2.2.1 (ER.out y8.2.2.1++IntKind.u8.wrap (bits BinOp.and IntKind.i64 y8.1.1 255)::[])) y8.2.2.2.2.1)<|
 Aa (bits BinOp.and IntKind.i64 y8.1.1 255) y8.2.2.1 y8.2.2.2.2.1)<|
 A1.bind fun y8=>
 (Ee.kr rK b3.b y8.2.2.1 y8.2.2.2.2.1).bind fun y9=>
 Aa y9.1.1 y9.2.2.1 y9.2.2.2.2.1
def Fz.kB (rK:A6.T) (tK:BB.KT):Fz.T:=fun t10 t140 t141 t142 k0 k1 b3=>
 ci (t142<t141) (ck (0<=t142/\t142<I t140.length)<|
 ck (t142.toNat<t140.length)<|
 (Ee.kr rK (List.getD t140 t142.toNat 0) k0 k1).bind fun y3=>
 ck (DG none (room 8 (t10.length+(y3.1.1::[]).length)))<|
 ck (BI (t142+1))<|
 tK.2.2.1 (t10++y3.1.1::[]) t140 t141 (t142+1) y3.2.2.1 y3.2.2.2.2.1 b3)<|
 (Se.k k0.p b3.text).bind fun y3=>
 (m64.kr rK y3.1.1 t10 k0).bind fun y4=>
 Aa y4.1.1 y4.2.1 k1
def BB.kS (rK:A6.T) (tK:BB.KT):BB.KT:=(FI.kB rK tK,FJ.kB rK tK,Fz.kB rK tK,())
def BB.kL (rK:A6.T) (n:Nat):BB.KT:=Bp (BB.kS rK) n
def BB.k0 (rK:A6.T) (tK:BB.KT) (t1:Int) (k0:ER) (k1:EF):R2 Int ER EF:=
 (Fe.k k0).bind fun y2=>
 let z1:R2 Int ER EF:=
 (Ge.kr rK (List.getD (ER.p y2.2.1).nodes t1.toNat Dop.d5) y2.2.1 k1).bind BQ
 ci (!y2.1.1) (Aa 0 y2.2.1 k1)<|
 ck (0<=t1/\t1<I (ER.p y2.2.1).nodes.length)<|
 ci ((List.getD (ER.p y2.2.1).nodes t1.toNat Dop.d5).kind=1) (Aa ((List.getD (ER.p y2.2.1).nodes t1.toNat Dop.d5).n) y2.2.1 k1)<|
 ci ((List.getD (ER.p y2.2.1).nodes t1.toNat Dop.d5).kind=2) (ck (0<=(List.getD (ER.p y2.2.1).nodes t1.toNat Dop.d5).n/\(List.getD (ER.p y2.2.1).nodes t1.toNat Dop.d5).n<I k1.Ai.length)<|
 ck ((List.getD (ER.p y2.2.1).nodes t1.toNat Dop.d5).n.toNat<k1.Ai.length)<|
 Aa (List.getD k1.Ai (List.getD (ER.p y2.2.1).nodes t1.toNat Dop.d5).n.toNat 0) y2.2.1 k1)<|
 ci ((List.getD (ER.p y2.2.1).nodes t1.toNat Dop.d5).kind=3) (ck (BI (k1.base+(List.getD (ER.p y2.2.1).nodes t1.toNat Dop.d5).n))<|
 (Er.k (k1.base+(List.getD (ER.p y2.2.1).nodes t1.toNat Dop.d5).n)).bind fun y7=>
 Aa y7.1.1 y2.2.1 k1)<|
 ci ((List.getD (ER.p y2.2.1).nodes t1.toNat Dop.d5).kind=4) (ci ((List.getD (ER.p y2.2.1).nodes t1.toNat Dop.d5).kind=4) (z1)<|
 tK.1 ((List.getD (ER.p y2.2.1).nodes t1.toNat Dop.d5).kind) y2.2.1 k1 (List.getD (ER.p y2.2.1).nodes t1.toNat Dop.d5))<|
 ci ((List.getD (ER.p y2.2.1).nodes t1.toNat Dop.d5).kind=5) (z1)<|
 tK.1 ((List.getD (ER.p y2.2.1).nodes t1.toNat Dop.d5).kind) y2.2.1 k1 (List.getD (ER.p y2.2.1).nodes t1.toNat Dop.d5)
def BB.kf (rK:A6.T) (t1:Int) (k0:ER) (k1:EF):R2 Int ER EF:=BB.k0 rK (BB.kL rK 1000000) t1 k0 k1
def Ge.kf (rK:A6.T) (x:Dop.Ab) (k0:ER) (k1:EF):R2 Int ER EF:=
 (BB.kr rK x.a k0 k1).bind fun y2=>
 ci (x.kind=5) ((BB.kr rK x.b y2.2.1 y2.2.2.1).bind fun y4=>
 ci (!(ER.end_ y4.2.1=0)) (Aa 0 y4.2.1 y4.2.2.1)<|
 (Fq.k y2.1.1).bind fun y6=>
 ci (y6.1.1<1) ((NU.k 2 1 y4.2.1).bind fun y8=>
 Aa 0 y8.2.1 y4.2.2.1)<|
 ci (I (ER.mem y4.2.1).length<=y6.1.1) ((NU.k 2 1 y4.2.1).bind fun y9=>
 Aa 0 y9.2.1 y4.2.2.1)<|
 ck (0<=y6.1.1/\y6.1.1<I (ER.mem y4.2.1).length)<|
 ci (x.kind=4) (ck (y6.1.1.toNat<(ER.mem y4.2.1).length)<|
 Aa (List.getD (ER.mem y4.2.1) y6.1.1.toNat 0) y4.2.1 y4.2.2.1)<|
 ck (y6.1.1.toNat<(ER.mem y4.2.1).length)<|
 Aa y4.1.1 (ER.ZW y4.2.1 ((ER.mem y4.2.1).set y6.1.1.toNat y4.1.1)) y4.2.2.1)<|
 ci (!(ER.end_ y2.2.1=0)) (Aa 0 y2.2.1 y2.2.2.1)<|
 (Fq.k y2.1.1).bind fun y5=>
 ci (y5.1.1<1) ((NU.k 2 1 y2.2.1).bind fun y7=>
 Aa 0 y7.2.1 y2.2.2.1)<|
 ci (I (ER.mem y2.2.1).length<=y5.1.1) ((NU.k 2 1 y2.2.1).bind fun y8=>
 Aa 0 y8.2.1 y2.2.2.1)<|
 ck (0<=y5.1.1/\y5.1.1<I (ER.mem y2.2.1).length)<|
 ci (x.kind=4) (ck (y5.1.1.toNat<(ER.mem y2.2.1).length)<|
 Aa (List.getD (ER.mem y2.2.1) y5.1.1.toNat 0) y2.2.1 y2.2.2.1)<|
 ck (y5.1.1.toNat<(ER.mem y2.2.1).length)<|
 Aa 0 (ER.ZW y2.2.1 ((ER.mem y2.2.1).set y5.1.1.toNat 0)) y2.2.2.1
def Ee.kf (rK:A6.T) (n:Int) (k1:ER) (k3:EF):Option ((Int×Unit)×((Unit×Unit)×ER×(Unit×Unit)×EF×Unit)):=
 (BB.kr rK n k1 k3).bind fun y2=>
 some ((y2.1.1,()),(((),()),(y2.2.1,(((),()),(y2.2.2.1,())))))
def Gf.kf (rK:A6.T) (x:Dop.Ab) (k0:ER) (k1:EF):R2 Int ER EF:=
 (BB.kr rK x.a k0 k1).bind fun y2=>
 ci (x.kind=8) ((BB.kr rK x.b y2.2.1 y2.2.2.1).bind fun y4=>
 ci (!(ER.end_ y4.2.1=0)) (Aa 0 y4.2.1 y4.2.2.1)<|
 (A0.k x.n y2.1.1 y4.1.1).bind fun y6=>
 ci (!y6.1.2.1) ((NU.k 2 2 y4.2.1).bind fun y8=>
 Aa y8.1.1 y8.2.1 y4.2.2.1)<|
 Aa y6.1.1 y4.2.1 y4.2.2.1)<|
 ci (!(ER.end_ y2.2.1=0)) (Aa 0 y2.2.1 y2.2.2.1)<|
 (A0.k x.n y2.1.1 0).bind fun y5=>
 ci (!y5.1.2.1) ((NU.k 2 2 y2.2.1).bind fun y7=>
 Aa y7.1.1 y7.2.1 y2.2.2.1)<|
 Aa y5.1.1 y2.2.1 y2.2.2.1
abbrev GJ.T:Type:=Int->ER->EF->Dop.Ab->R2 Int ER EF
abbrev E6.T:Type:=Int->Bool->ER->EF->Dop.Ab->R2 Int ER EF
abbrev C1.T:Type:=Int->Bool->Int->ER->EF->Dop.Ab->R2 Int ER EF
abbrev L3.T:Type:=Int->ER->EF->R2 Int ER EF
abbrev IZ.T:Type:=Int->Bool->ER->EF->Dop.Ab->R2 Int ER EF
abbrev Ia.T:Type:=Int->Bool->ER->EF->Dop.Ab->R2 Int ER EF
abbrev Aq.KT:Type:=GJ.T×E6.T×C1.T×L3.T×IZ.T×Ia.T×Unit
def GJ.kB (rK:A6.T) (tK:Aq.KT):GJ.T:=fun t7 k0 k1 b2=>
 ci (!(k1.CN=0)) (tK.2.1 t7 true k0 k1 b2)<|
 tK.2.1 t7 (decide (b2.kind=33)) k0 k1 b2
def E6.kB (rK:A6.T) (tK:Aq.KT):E6.T:=fun t7 t8 k0 k1 b2=>
 ci (b2.kind=34) (tK.2.2.1 t7 t8 b2.b k0 k1 b2)<|
 tK.2.2.1 t7 t8 b2.a k0 k1 b2
def C1.kB (rK:A6.T) (tK:Aq.KT):C1.T:=fun t7 t8 t9 k0 k1 b2=>
 let A1:=Ct.kr rK t7 k0 k1
 let F1:Y2 Int ER EF->R2 Int ER EF:=fun y4=>
 ci (y4.1.1=1) (Aa 0 y4.2.1 y4.2.2.1)<|
 ci (y4.1.1=3) (ci (y4.1.1=3) (tK.2.2.2.1 y4.1.1 y4.2.1 y4.2.2.1)<|
 tK.2.2.2.2.1 t7 false y4.2.1 y4.2.2.1 b2)<|
 ci (y4.1.1=4) (ci (y4.1.1=4) (tK.2.2.2.1 y4.1.1 y4.2.1 y4.2.2.1)<|
 tK.2.2.2.2.1 t7 false y4.2.1 y4.2.2.1 b2)<|
 ci (y4.1.1=5) (tK.2.2.2.1 y4.1.1 y4.2.1 y4.2.2.1)<|
 tK.2.2.2.2.1 t7 false y4.2.1 y4.2.2.1 b2
 ci (!t8) (ci (0<=t9) ((BB.kr rK t9 k0 k1).bind fun y4=>
 ci (y4.1.1=0) (Aa 0 y4.2.1 y4.2.2.1)<|
 ci (!t8) (ci (t9<0) ((Fe.k y4.2.1).bind fun y8=>
 ci (!y8.1.1) (Aa 5 y8.2.1 y4.2.2.1)<|
 (Ct.kr rK t7 y8.2.1 y4.2.2.1).bind F1)<|
 (Ct.kr rK t7 y4.2.1 y4.2.2.1).bind F1)<|
 (Ct.kr rK t7 y4.2.1 y4.2.2.1).bind F1)<|
 ci (!t8) (ci (t9<0) ((Fe.k k0).bind fun y6=>
 ci (!y6.1.1) (Aa 5 y6.2.1 k1)<|
 (Ct.kr rK t7 y6.2.1 k1).bind F1)<|
 A1.bind F1)<|
 A1.bind F1)<|
 ci (!t8) (ci (t9<0) ((Fe.k k0).bind fun y5=>
 ci (!y5.1.1) (Aa 5 y5.2.1 k1)<|
 (Ct.kr rK t7 y5.2.1 k1).bind F1)<|
 A1.bind F1)<|
 A1.bind F1
def L3.kB (rK:A6.T) (tK:Aq.KT):L3.T:=fun t10 k0 k1=>
 Aa t10 k0 k1
def IZ.kB (rK:A6.T) (tK:Aq.KT):IZ.T:=fun t7 t8 k0 k1 b2=>
 ci (b2.kind=34) (ci (0<=b2.c) ((BB.kr rK b2.c k0 k1).bind fun y4=>
 tK.2.2.2.2.2.1 t7 t8 y4.2.1 y4.2.2.1 b2)<|
 tK.2.2.2.2.2.1 t7 t8 k0 k1 b2)<|
 tK.2.2.2.2.2.1 t7 t8 k0 k1 b2
def Ia.kB (rK:A6.T) (tK:Aq.KT):Ia.T:=fun t7 t8 k0 k1 b2=>
 ci (!(k0.end_=0)) (Aa 5 k0 k1)<|
 tK.2.1 t7 t8 k0 k1 b2
def Aq.kS (rK:A6.T) (tK:Aq.KT):Aq.KT:=(GJ.kB rK tK,E6.kB rK tK,C1.kB rK tK,L3.kB rK tK,IZ.kB rK tK,Ia.kB rK tK,())
def Aq.kL (rK:A6.T) (n:Nat):Aq.KT:=Bp (Aq.kS rK) n
def Aq.k0 (rK:A6.T) (tK:Aq.KT) (t1:Dop.Ab) (k0:ER) (k1:EF):R2 Int ER EF:=
 ci (t1.kind=34) (ci (k1.CN=0) (ci (0<=t1.a) ((BB.kr rK t1.a k0 k1).bind fun y5=>
 tK.1 t1.d y5.2.1 y5.2.2.1 t1)<|
 tK.1 t1.d k0 k1 t1)<|
 tK.1 t1.d k0 k1 t1)<|
 tK.1 t1.b k0 k1 t1
def Aq.kf (rK:A6.T) (t1:Dop.Ab) (k0:ER) (k1:EF):R2 Int ER EF:=Aq.k0 rK (Aq.kL rK 1000000) t1 k0 k1
def HW.kf (rK:A6.T) (x:Dop.Ab) (k0:ER) (k1:EF):R2 Int ER EF:=(Au (S:=Dop.D4) prog 109 tb (A6.ct rK++[Bj.LZ]) HW.p).KJ 3000 1000000 HW.p.sp (((),x,(),()),(k0,k1,()))
def A6.kS (r:A6.T):A6.T:=(fun x=>m64.kf r x.1.2.1 x.1.2.2.1 x.2.1,fun x=>Ct.kf r x.1.2.1 x.2.1 x.2.2.1,fun x=>BA.kf r x.1.2.1 x.2.1 x.2.2.1,fun x=>BB.kf r x.1.2.1 x.2.1 x.2.2.1,fun x=>Ge.kf r x.1.2.1 x.2.1 x.2.2.1,fun x=>Ee.kf r x.1.1 x.2.2.1 x.2.2.2.2.1,fun x=>Gf.kf r x.1.2.1 x.2.1 x.2.2.1,fun x=>Aq.kf r x.1.2.1 x.2.1 x.2.2.1,fun x=>HW.kf r x.1.2.1 x.2.1 x.2.2.1,())
def A6.kR (n:Nat):A6.T:=Bp A6.kS n
def m64.Kc (n:Nat):=kd 15 m64.p (A6.kR n).1
def m64.LZ:=m64.Kc FU
def m64.k:=m64.kr (A6.kR FU)
def Ct.Kc (n:Nat):=kd 31 Ct.p (A6.kR n).2.1
def BA.Kc (n:Nat):=kd 63 BA.p (A6.kR n).2.2.1
def BB.Kc (n:Nat):=kd 107 BB.p (A6.kR n).2.2.2.1
def Ge.Kc (n:Nat):=kd 128 Ge.p (A6.kR n).2.2.2.2.1
def Ee.Kc (n:Nat):=kd 127 Ee.p (A6.kR n).2.2.2.2.2.1
def Gf.Kc (n:Nat):=kd 129 Gf.p (A6.kR n).2.2.2.2.2.2.1
def Aq.Kc (n:Nat):=kd 108 Aq.p (A6.kR n).2.2.2.2.2.2.2.1
def HW.Kc (n:Nat):=kd 109 HW.p (A6.kR n).2.2.2.2.2.2.2.2.1
def A6.Si (n:Nat):List (B2 Dop.D4):=[m64.Kc n,Ct.Kc n,BA.Kc n,BB.Kc n,Ge.Kc n,Ee.Kc n,Gf.Kc n,Aq.Kc n,HW.Kc n]
theorem A6.FD: ∀ n,(m64.Kc n).Holds prog/\(Ct.Kc n).Holds prog/\(BA.Kc n).Holds prog/\(BB.Kc n).Holds prog/\(Ge.Kc n).Holds prog/\(Ee.Kc n).Holds prog/\(Gf.Kc n).Holds prog/\(Aq.Kc n).Holds prog/\(HW.Kc n).Holds prog/\True
 | 0=>⟨AP AI m64.ok,AP AI Ct.ok,AP AI BA.ok,AP AI BB.ok,AP AI Ge.ok,AP AI Ee.ok,AP AI Gf.ok,AP AI Aq.ok,AP AI HW.ok,trivial⟩
 | n+1=>by
  obtain ⟨h0,h1,h2,h3,h4,h5,h6,h7,h8,_⟩:=A6.FD n
  have hh: ∀ c∈A6.Si n,c.Holds prog:=(hc h0 (hc h1 (hc h2 (hc h3 (hc h4 (hc h5 (hc h6 (hc h7 (hc h8 hn)))))))))
  exact ⟨Fx AI (Af hh (hc NU.Kh (hc Fe.Kh hn))) m64.ok (fun t x=>m64.k0 (A6.kR n) t x.1.2.1 x.1.2.2.1 x.2.1) (fun c=>(fun k0 b1 k2=>c 9 m64.q9 rfl (((),(),(),()),(k0,(b1,()),k2,())),fun k0 b1 k2=>c 100009 m64.VF rfl (((),(),(),()),(k0,(b1,()),k2,())),())) (m64.kS (A6.kR n)) (by kernel_rfl),
   kh AI (Af hh (hc Bj.Ip (hc Fe.Kh hn))) Ct.ok (by kernel_rfl),
   Fx AI (Af hh (hc Bj.Ip (hc C3.Kh hn))) BA.ok (fun t x=>BA.k0 (A6.kR n) t x.1.2.1 x.2.1 x.2.2.1) (fun c=>(fun t11 k0 k1 b2=>c 18 BA.kH rfl (((),(),(),t11,()),(k0,k1,(b2,()),())),fun k0 k1 b2=>c 35 BA.oB rfl (((),(),(),()),(k0,k1,(b2,()),())),fun t11 k0 k1 b2=>c 38 BA.oD rfl (((),(),(),t11,()),(k0,k1,(b2,()),())),fun t182 t183 t184 k0 k1=>c 42 BA.oG rfl (((),(),t182,t183,t184,()),(k0,k1,())),())) (BA.kS (A6.kR n)) (by kernel_rfl),
   Fx AI (Af hh (hc Fe.Kh (hc Er.Kh (hc J7.Kh (hc C3.Kh (hc Se.Kh hn)))))) BB.ok (fun t x=>BB.k0 (A6.kR n) t x.1.2.1 x.2.1 x.2.2.1) (fun c=>(fun t28 k0 k1 b4=>c 15 BB.fw rfl (((),(),(),(),t28,()),(k0,k1,((),()),((),()),(b4,()),())),fun t28 k0 k1 b3=>c 23 BB.kJ rfl (((),(),(),t28,()),(k0,k1,((),()),(b3,()),((),()),())),fun t10 t140 t141 t142 k0 k1 b3=>c 34 BB.oA rfl (((),(),(),t10,t140,t141,t142,()),(k0,k1,((),()),(b3,()),((),()),())),())) (BB.kS (A6.kR n)) (by kernel_rfl),
   kh AI (Af hh (hc Fq.Kh (hc NU.Kh hn))) Ge.ok (by kernel_rfl),
   kh AI (Af hh hn) Ee.ok (by kernel_rfl),
   kh AI (Af hh (hc A0.Kh (hc NU.Kh hn))) Gf.ok (by kernel_rfl),
   Fx AI (Af hh (hc Fe.Kh hn)) Aq.ok (fun t x=>Aq.k0 (A6.kR n) t x.1.2.1 x.2.1 x.2.2.1) (fun c=>(fun t7 k0 k1 b2=>c 6 Aq.q6 rfl (((),(),(),t7,()),(k0,k1,(b2,()),())),fun t7 t8 k0 k1 b2=>c 7 Aq.q7 rfl (((),(),(),t7,t8,()),(k0,k1,(b2,()),())),fun t7 t8 t9 k0 k1 b2=>c 10 Aq.VE rfl (((),(),(),t7,t8,t9,()),(k0,k1,(b2,()),())),fun t10 k0 k1=>c 22 Aq.kI rfl ((t10,()),(k0,k1,())),fun t7 t8 k0 k1 b2=>c 23 Aq.kJ rfl (((),(),(),t7,t8,()),(k0,k1,(b2,()),())),fun t7 t8 k0 k1 b2=>c 25 Aq.ny rfl (((),(),(),t7,t8,()),(k0,k1,(b2,()),())),())) (Aq.kS (A6.kR n)) (by kernel_rfl),
   kh AI (Af hh (hc Bj.Ip hn)) HW.ok (by kernel_rfl),
   trivial⟩
theorem m64.Ip:m64.LZ.Holds prog:=(A6.FD FU).1
abbrev Iu.T:Type:=List Dop.MW->Int->Int->Dop.Gu->Int->Int->List Int->ER->Fs Dop.PJ
abbrev F0.KT:Type:=Iu.T×Unit
def Iu.kB (tK:F0.KT):Iu.T:=fun t22 t23 t24 b0 b1_0 b1_1 b1_2 k2=>
 let A1:=List.getD t22 t24.toNat Dop.d12
 ci (t24<t23) (ck (0<=t24/\t24<I t22.length)<|
 ck (0<=A1.at_/\A1.at_<I k2.mem.length)<|
 ck (A1.at_.toNat<k2.mem.length)<|
 ck (BI (t24+1))<|
 tK.1 t22 t23 (t24+1) b0 b1_0 b1_1 b1_2 ((ER.ZW k2 (k2.mem.set A1.at_.toNat A1.RP))))<|
 (Se.k b0 ([109,97,105,110]:List UInt8)).bind fun y3=>
 (m64.k y3.1.1 [] k2).bind fun y4=>
 ci (ER.end_ y4.2.1=0) ((NU.k 1 y4.1.1 y4.2.1).bind fun y6=>
 Cn (Dop.PJ.mk (ER.end_ y6.2.1) (ER.code y6.2.1) (ER.out y6.2.1)))<|
 Cn (Dop.PJ.mk (ER.end_ y4.2.1) (ER.code y4.2.1) (ER.out y4.2.1))
def F0.kS (tK:F0.KT):F0.KT:=(Iu.kB tK,())
def F0.kL (n:Nat):F0.KT:=Bp F0.kS n
def F0.k0 (tK:F0.KT) (p:Dop.Gu) (input:List Int) (fuel:Int):Fs Dop.PJ:=
 ck ((0:Int)<=4096/\(4096:Int)<=4096/\4096*(I (8:Nat)+1)<=140737488355328)<|
 tK.1 p.globals (I p.globals.length) 0 p 0 0 [] ((p,List.replicate (Int.toNat 4096) 0,p.top,input,[],if 1000000<if fuel<0 then 0 else fuel then 1000000 else if fuel<0 then 0 else fuel,0,0,(0:Int),(),()))
def F0.k (p:Dop.Gu) (input:List Int) (fuel:Int):Fs Dop.PJ:=F0.k0 (F0.kL 1000000) p input fuel
def F0.Kc:=kd 10 F0.p fun x=>F0.k x.1.1 x.1.2.1 x.1.2.2.1
theorem F0.Kh:F0.Kc.Holds prog:=Fx AI (hc Se.Kh (hc m64.Ip (hc NU.Kh hn))) F0.ok (fun t x=>F0.k0 t x.1.1 x.1.2.1 x.1.2.2.1) (fun c=>(fun t22 t23 t24 b0 b1_0 b1_1 b1_2 k2=>c 3 F0.q3 rfl (((),(),(),t22,t23,t24,()),((b0,()),(b1_0,b1_1,b1_2,()),k2,())),())) F0.kS (by kernel_rfl)
def OI.k (s:List UInt8) (input:List Int) (fuel:Int):MZ Dop.PJ Int:=
 (m18.k s).bind fun y2=>
 ci (!(y2.1.2.2.1=0)) (Ev (Dop.PJ.mk 0 0 []) y2.1.2.2.1)<|
 (F0.k y2.1.1 input fuel).bind fun y4=>
 Ev y4.1.1 0
def OI.Kc:=kd 5 OI.p fun x=>OI.k x.1.1 x.1.2.1 x.1.2.2.1
theorem OI.Kh:OI.Kc.Holds prog:=kh AI (hc m18.Kh (hc F0.Kh hn)) OI.ok (by kernel_rfl)
def Ya.k :Fs Bool:=
 (OI.k ([105,110,116,32,109,97,105,110,40,41,123,112,117,116,99,40,54,53,41,59,114,101,116,117,114,110,32,55,59,125]:List UInt8) [] 100).bind fun y2=>
 ci (y2.1.2.1=0) (ci (y2.1.1.end_=1) (ci (y2.1.1.code=7) (ci (I y2.1.1.output.length=1) (ck ((0:Int)<=0/\0<I y2.1.1.output.length)<|
 Cn (decide (List.getD y2.1.1.output (Int.toNat 0) (0:Int)=65)))<|
 Cn false)<|
 Cn false)<|
 Cn false)<|
 Cn false
def Ya.Kc:=kd 7 Ya.p fun x=>Ya.k
theorem Ya.Kh:Ya.Kc.Holds prog:=kh AI (hc OI.Kh hn) Ya.ok (by kernel_rfl)
end
end Go.Proofs.Tryz
