/-
 Functions in plain words (what their equations say), and their contracts. Written by a program.
-/
import Derived.Test.YtikecakpcfpghaaGreatDoorMt
import Derived.Test.YtikecakpcfpghaaGreatDoorMp
set_option linter.all false
set_option maxRecDepth 100000
set_option maxHeartbeats 4000000
namespace Go.Proofs.Tryz
open Go Go.En
noncomputable section
def YH.k (f:Dop.Dc) (b0:List UInt8):R1 Bool (List UInt8×Unit):=
 Cn (decide (f.name=b0)) (b0,())
def YH.Kc:=kd 25 YH.p fun x=>YH.k x.1.1 x.2.1.1
theorem YH.Kh:YH.Kc.Holds prog:=kh AH hn YH.ok (by kernel_rfl)
abbrev Jy.T:Type:=List Dop.Dc->Int->Int->List UInt8->R1 Int (List UInt8×Unit)
abbrev BQ.KT:Type:=Jy.T×Unit
def Jy.kB (tK:BQ.KT):Jy.T:=fun s t7 t8 b0=>
 ci (t8<t7) (ck (0<=t8/\t8<I s.length)<|
 (YH.k (List.getD s t8.toNat Dop.d11) b0).bind fun y3=>
 ci y3.1.1 (Cn t8 (y3.2.1.1,()))<|
 ck (BD (t8+1))<|
 tK.1 s t7 (t8+1) y3.2.1.1)<|
 Cn (-1) (b0,())
def BQ.kS (tK:BQ.KT):BQ.KT:=(Jy.kB tK,())
def BQ.kL (n:Nat):BQ.KT:=C5 BQ.kS n
def BQ.k0 (tK:BQ.KT) (s:List Dop.Dc) (b0:List UInt8):R1 Int (List UInt8×Unit):=
 tK.1 s (I s.length) 0 b0
def BQ.k (s:List Dop.Dc) (b0:List UInt8):R1 Int (List UInt8×Unit):=BQ.k0 (BQ.kL 1000000) s b0
def BQ.Kc:=kd 24 BQ.p fun x=>BQ.k x.1.1 x.2.1.1
theorem BQ.Kh:BQ.Kc.Holds prog:=GB AH (hc YH.Kh hn) BQ.ok (fun t x=>BQ.k0 t x.1.1 x.2.1.1) (fun c=>(fun s t7 t8 b0=>c 2 BQ.q2 rfl ((s,(),t7,t8,()),((b0,()),())),())) BQ.kS (by kernel_rfl)
def US.k (p:Dop.JM) (name:List UInt8):HH Int:=
 (BQ.k p.funcs name).bind nq
def US.Kc:=kd 11 US.p fun x=>US.k x.1.1 x.1.2.1
theorem US.Kh:US.Kc.Holds prog:=kh AH (hc BQ.Kh hn) US.ok (by kernel_rfl)
def NP.k (end_ code:Int) (k0:ER):R1 Int ER:=
 ci (k0.end_=0) (Cn 0 (ER.fI (ER.fJ k0 end_) code))<|
 Cn 0 k0
def NP.Kc:=kd 12 NP.p fun x=>NP.k x.1.2.1 x.1.2.2.1 x.2.1
theorem NP.Kh:NP.Kc.Holds prog:=kh AH hn NP.ok (by kernel_rfl)
def NC.k (p:Dop.JM) (n:Int):HH Dop.AZ:=
 let A1:=Ez (Dop.AZ.mk 0 (-1) (-1) (-1) (-1) [] 0 0 0)
 ci (n<0) A1<|
 ci (I p.nodes.length<=n) A1<|
 ck (0<=n/\n<I p.nodes.length)<|
 Ez (List.getD p.nodes n.toNat Dop.d5)
def NC.Kc:=kd 110 NC.p fun x=>NC.k x.1.1 x.1.2.1
theorem NC.Kh:NC.Kc.Holds prog:=kh AH hn NC.ok (by kernel_rfl)
abbrev Pk.T:Type:=Int->List Int->Int->Int->Dop.JM->HH (List Int)
abbrev C6.KT:Type:=Pk.T×Unit
def Pk.kB (tK:C6.KT):Pk.T:=fun n out t9 t10 b0=>
 ci (t10<t9) ((NC.k b0 n).bind fun y3=>
 ci (!(y3.1.1.kind=20)) (Ez out)<|
 ck (DK none (room 8 (out.length+(y3.1.1.a::[]).length)))<|
 ck (BD (t10+1))<|
 tK.1 y3.1.1.b (out++y3.1.1.a::[]) t9 (t10+1) b0)<|
 Ez out
def C6.kS (tK:C6.KT):C6.KT:=(Pk.kB tK,())
def C6.kL (n:Nat):C6.KT:=C5 C6.kS n
def C6.k0 (tK:C6.KT) (p:Dop.JM) (n:Int):HH (List Int):=
 tK.1 n [] (I p.nodes.length) 0 p
def C6.k (p:Dop.JM) (n:Int):HH (List Int):=C6.k0 (C6.kL 1000000) p n
def C6.Kc:=kd 89 C6.p fun x=>C6.k x.1.1 x.1.2.1
theorem C6.Kh:C6.Kc.Holds prog:=GB AH (hc NC.Kh hn) C6.ok (fun t x=>C6.k0 t x.1.1 x.1.2.1) (fun c=>(fun n out t9 t10 b0=>c 3 C6.q3 rfl ((n,(),out,t9,t10,()),((b0,()),())),())) C6.kS (by kernel_rfl)
abbrev Bp.kr (r:Ct.T) (t1:Int) (k0:ER) (k1:EF):R2 Bool ER EF:=r.1 (((),t1,(),()),(k0,k1,()))
abbrev Cp.kr (r:Ct.T) (s:List Int) (k1:ER) (k3:EF):Option ((Bool×Unit)×((Unit×Unit)×ER×(Unit×Unit)×EF×Unit)):=r.2.1 ((s,(),()),(((),()),k1,((),()),k3,()))
abbrev Ah.kr (r:Ct.T) (s:List Int) (k1:ER) (k3:EF):Option ((Int×Unit)×((Unit×Unit)×ER×(Unit×Unit)×EF×Unit)):=r.2.2.1 ((s,(),()),(((),()),k1,((),()),k3,()))
abbrev LW.kr (r:Ct.T) (s:Int) (k1:ER) (k3:EF):Option ((Bool×Unit)×((Unit×Unit)×ER×(Unit×Unit)×EF×Unit)):=r.2.2.2.1 ((s,(),(),()),(((),()),k1,((),()),k3,()))
abbrev Po.T:Type:=ER->EF->Dop.AZ->R2 Bool ER EF
abbrev Lq.T:Type:=Int->ER->EF->Dop.AZ->R2 Bool ER EF
abbrev Bp.KT:Type:=Po.T×Lq.T×Unit
def Po.kB (rK:Ct.T) (tK:Bp.KT):Po.T:=fun k0 k1 b4=>
 let A1:=Bp.kr rK b4.a k0 k1
 ci (k1.FY=2) (ci (b4.kind=41) (ci (b4.n=k1.key) (Ac true k0 k1)<|
 ci (k1.FY=3) (ci (b4.kind=42) (Ac true k0 k1)<|
 A1.bind BP)<|
 A1.bind BP)<|
 ci (k1.FY=3) (ci (b4.kind=42) (Ac true k0 k1)<|
 A1.bind BP)<|
 A1.bind BP)<|
 ci (k1.FY=3) (ci (b4.kind=42) (Ac true k0 k1)<|
 A1.bind BP)<|
 A1.bind BP
def Lq.kB (rK:Ct.T) (tK:Bp.KT):Lq.T:=fun t19 k0 k1 b4=>
 let A1:=Bp.kr rK b4.b k0 k1
 let z1:R2 Bool ER EF:=
 ci (t19=34) ((Bp.kr rK b4.d k0 k1).bind BP)<|
 ci (t19=43) ((C6.k k0.p b4.a).bind fun y8=>
 (Cp.kr rK y8.1.1 k0 k1).bind fun y9=>
 Ac y9.1.1 y9.2.2.1 y9.2.2.2.2.1)<|
 Ac false k0 k1
 ci (t19=40) (ci (k1.FY=1) (A1.bind BP)<|
 Ac false k0 k1)<|
 ci (t19=31) (A1.bind fun y4=>
 ci y4.1.1 (Ac true y4.2.1 y4.2.2.1)<|
 (Bp.kr rK b4.c y4.2.1 y4.2.2.1).bind BP)<|
 ci (t19=32) (ci (t19=32) (A1.bind BP)<|
 z1)<|
 ci (t19=33) (A1.bind BP)<|
 z1
def Bp.kS (rK:Ct.T) (tK:Bp.KT):Bp.KT:=(Po.kB rK tK,Lq.kB rK tK,())
def Bp.kL (rK:Ct.T) (n:Nat):Bp.KT:=C5 (Bp.kS rK) n
def Bp.k0 (rK:Ct.T) (tK:Bp.KT) (t1:Int) (k0:ER) (k1:EF):R2 Bool ER EF:=
 let A1:=List.getD k0.p.nodes t1.toNat Dop.d5
 let A2:=Bp.kr rK (A1.a) k0 k1
 ci (t1<0) (Ac false k0 k1)<|
 ck (0<=t1/\t1<I k0.p.nodes.length)<|
 ci (A1.kind=39) (ci (k1.FY=1) (ci (A1.text=k1.nS) (Ac true k0 k1)<|
 A2.bind BP)<|
 A2.bind BP)<|
 ci (A1.kind=41) (ci (A1.kind=41) (tK.1 k0 k1 A1)<|
 tK.2.1 (A1.kind) k0 k1 A1)<|
 ci (A1.kind=42) (tK.1 k0 k1 A1)<|
 tK.2.1 (A1.kind) k0 k1 A1
def Bp.kf (rK:Ct.T) (t1:Int) (k0:ER) (k1:EF):R2 Bool ER EF:=Bp.k0 rK (Bp.kL rK 1000000) t1 k0 k1
def Cp.kf (rK:Ct.T) (s:List Int) (k1:ER) (k3:EF):Option ((Bool×Unit)×((Unit×Unit)×ER×(Unit×Unit)×EF×Unit)):=
 (Ah.kr rK s k1 k3).bind fun y2=>
 some ((decide (0<=y2.1.1),()),(((),()),(y2.2.2.1,(((),()),(y2.2.2.2.2.1,())))))
abbrev Gw.T:Type:=List Int->Int->Int->ER->EF->Option ((Int×Unit)×((Unit×Unit)×ER×(Unit×Unit)×EF×Unit))
abbrev Ah.KT:Type:=Gw.T×Unit
def Gw.kB (rK:Ct.T) (tK:Ah.KT):Gw.T:=fun s t7 t8 k1 k3=>
 ci (t8<t7) (ck (0<=t8/\t8<I s.length)<|
 ck (t8.toNat<s.length)<|
 (LW.kr rK (List.getD s t8.toNat 0) k1 k3).bind fun y3=>
 ci y3.1.1 (some ((t8,()),(((),()),(y3.2.2.1,(((),()),(y3.2.2.2.2.1,()))))))<|
 ck (BD (t8+1))<|
 tK.1 s t7 (t8+1) y3.2.2.1 y3.2.2.2.2.1)<|
 some (((-1),()),(((),()),(k1,(((),()),(k3,())))))
def Ah.kS (rK:Ct.T) (tK:Ah.KT):Ah.KT:=(Gw.kB rK tK,())
def Ah.kL (rK:Ct.T) (n:Nat):Ah.KT:=C5 (Ah.kS rK) n
def Ah.k0 (rK:Ct.T) (tK:Ah.KT) (s:List Int) (k1:ER) (k3:EF):Option ((Int×Unit)×((Unit×Unit)×ER×(Unit×Unit)×EF×Unit)):=
 tK.1 s (I s.length) 0 k1 k3
def Ah.kf (rK:Ct.T) (s:List Int) (k1:ER) (k3:EF):Option ((Int×Unit)×((Unit×Unit)×ER×(Unit×Unit)×EF×Unit)):=Ah.k0 rK (Ah.kL rK 1000000) s k1 k3
def LW.kf (rK:Ct.T) (s:Int) (k1:ER) (k3:EF):Option ((Bool×Unit)×((Unit×Unit)×ER×(Unit×Unit)×EF×Unit)):=
 (Bp.kr rK s k1 k3).bind fun y2=>
 some ((y2.1.1,()),(((),()),(y2.2.1,(((),()),(y2.2.2.1,())))))
def Ct.kS (r:Ct.T):Ct.T:=(fun x=>Bp.kf r x.1.2.1 x.2.1 x.2.2.1,fun x=>Cp.kf r x.1.1 x.2.2.1 x.2.2.2.2.1,fun x=>Ah.kf r x.1.1 x.2.2.1 x.2.2.2.2.1,fun x=>LW.kf r x.1.1 x.2.2.1 x.2.2.2.2.1,())
def Ct.kR (n:Nat):Ct.T:=C5 Ct.kS n
def Bp.Kc (n:Nat):=kd 48 Bp.p (Ct.kR n).1
def Bp.LO:=Bp.Kc FU
def Bp.k:=Bp.kr (Ct.kR FU)
def Cp.Kc (n:Nat):=kd 88 Cp.p (Ct.kR n).2.1
def Ah.Kc (n:Nat):=kd 109 Ah.p (Ct.kR n).2.2.1
def LW.Kc (n:Nat):=kd 90 LW.p (Ct.kR n).2.2.2.1
def Ct.SK (n:Nat):List (By Dop.D4):=[Bp.Kc n,Cp.Kc n,Ah.Kc n,LW.Kc n]
theorem Ct.E5: ∀ n,(Bp.Kc n).Holds prog/\(Cp.Kc n).Holds prog/\(Ah.Kc n).Holds prog/\(LW.Kc n).Holds prog/\True
 | 0=>⟨AO AH Bp.ok,AO AH Cp.ok,AO AH Ah.ok,AO AH LW.ok,trivial⟩
 | n+1=>by
  obtain ⟨h0,h1,h2,h3,_⟩:=Ct.E5 n
  have hh: ∀ c∈Ct.SK n,c.Holds prog:=(hc h0 (hc h1 (hc h2 (hc h3 hn))))
  exact ⟨GB AH (Ad hh (hc C6.Kh hn)) Bp.ok (fun t x=>Bp.k0 (Ct.kR n) t x.1.2.1 x.2.1 x.2.2.1) (fun c=>(fun k0 k1 b4=>c 9 Bp.q9 rfl (((),(),(),()),(k0,k1,((),()),((),()),(b4,()),())),fun t19 k0 k1 b4=>c 10 Bp.Us rfl (((),(),(),t19,()),(k0,k1,((),()),((),()),(b4,()),())),())) (Bp.kS (Ct.kR n)) (by kernel_rfl),
   kh AH (Ad hh hn) Cp.ok (by kernel_rfl),
   GB AH (Ad hh hn) Ah.ok (fun t x=>Ah.k0 (Ct.kR n) t x.1.1 x.2.2.1 x.2.2.2.2.1) (fun c=>(fun s t7 t8 k1 k3=>c 2 Ah.q2 rfl ((s,(),t7,t8,()),(((),()),k1,((),()),k3,())),())) (Ah.kS (Ct.kR n)) (by kernel_rfl),
   kh AH (Ad hh hn) LW.ok (by kernel_rfl),
   trivial⟩
theorem Bp.Ie:Bp.LO.Holds prog:=(Ct.E5 FU).1
def FR.k (k0:ER):R1 Bool ER:=
 ci (!(k0.end_=0)) (Cn false k0)<|
 ci (k0.fuel=0) ((NP.k 4 0 k0).bind fun y4=>
 Cn false y4.2.1)<|
 ck (BD (k0.fuel -1))<|
 Cn true (ER.fK k0 (k0.fuel -1))
def FR.Kc:=kd 23 FR.p fun x=>FR.k x.2.1
theorem FR.Kh:FR.Kc.Holds prog:=kh AH (hc NP.Kh hn) FR.ok (by kernel_rfl)
def Ff.k (n:Int):HH Int:=
 ck (BD (IntKind.u32.wrap n))<|
 Ez (IntKind.u32.wrap n)
def Ff.Kc:=kd 174 Ff.p fun x=>Ff.k x.1.1
theorem Ff.Kh:Ff.Kc.Holds prog:=kh AH hn Ff.ok (by kernel_rfl)
def Di.k (n:Int):MO Int Bool:=
 (Eh.k n).bind fun y2=>
 JE y2.1.1 true
def Di.Kc:=kd 175 Di.p fun x=>Di.k x.1.1
theorem Di.Kh:Di.Kc.Holds prog:=kh AH (hc Eh.Kh hn) Di.ok (by kernel_rfl)
abbrev Px.T:Type:=O6 Int Int Bool
abbrev D8.KT:Type:=Px.T×Unit
def Px.kB (tK:D8.KT):Px.T:=
 Rh 0 0 false
def D8.kS (tK:D8.KT):D8.KT:=(Px.kB tK,())
def D8.kL (n:Nat):D8.KT:=C5 D8.kS n
def D8.k0 (tK:D8.KT) (a b:Int):O6 Int Int Bool:=
 ci (b=0) (tK.1)<|
 ck (b≠0/\BD (a.tdiv b)=true)<|
 ck (b≠0)<|
 Rh (a.tdiv b) (a.tmod b) true
def D8.k (a b:Int):O6 Int Int Bool:=D8.k0 (D8.kL 1000000) a b
def D8.Kc:=kd 176 D8.p fun x=>D8.k x.1.1 x.1.2.1
theorem D8.Kh:D8.Kc.Holds prog:=GB AH hn D8.ok (fun t x=>D8.k0 t x.1.1 x.1.2.1) (fun c=>(c 3 D8.q3 rfl ((),()),())) D8.kS (by kernel_rfl)
def G1.k (is:Bool):HH Int:=
 ci is (Ez 1)<|
 Ez 0
def G1.Kc:=kd 177 G1.p fun x=>G1.k x.1.1
theorem G1.Kh:G1.Kc.Holds prog:=kh AH hn G1.ok (by kernel_rfl)
abbrev L3.T:Type:=Int->Int->Int->MO Int Bool
abbrev L5.T:Type:=Int->Int->Int->Int->MO Int Bool
abbrev L4.T:Type:=Int->Bool->MO Int Bool
abbrev L6.T:Type:=Int->Int->Int->MO Int Bool
abbrev L8.T:Type:=Int->Int->Int->MO Int Bool
abbrev L7.T:Type:=Int->Bool->MO Int Bool
abbrev BC.KT:Type:=L3.T×L5.T×L4.T×L6.T×L8.T×L7.T×Unit
def L3.kB (tK:BC.KT):L3.T:=fun o t1 t2=>
 (D8.k t1 t2).bind fun y2=>
 ci (o=5) (tK.2.2.1 y2.1.2.1 y2.1.2.2.1)<|
 tK.2.2.1 y2.1.1 y2.1.2.2.1
def L5.kB (tK:BC.KT):L5.T:=fun o t1 t2 t19=>
 ci (t19=6) (ci (t19=6) (tK.2.2.2.1 o t1 t2)<|
 tK.2.2.2.2.1 t1 t2 t19)<|
 ci (t19=7) (tK.2.2.2.1 o t1 t2)<|
 tK.2.2.2.2.1 t1 t2 t19
def L4.kB (tK:BC.KT):L4.T:=fun t9 t11=>
 (Eh.k t9).bind fun y2=>
 JE y2.1.1 t11
def L6.kB (tK:BC.KT):L6.T:=fun o t1 t2=>
 (Ff.k t1).bind fun y2=>
 (Ff.k t2).bind fun y3=>
 (D8.k y2.1.1 y3.1.1).bind fun y4=>
 ci (o=7) (tK.2.2.2.2.2.1 y4.1.2.1 y4.1.2.2.1)<|
 tK.2.2.2.2.2.1 y4.1.1 y4.1.2.2.1
def L8.kB (tK:BC.KT):L8.T:=fun t1 t2 t19=>
 let A1:=bits BinOp.and IntKind.i64 t2 31
 ci (t19=8) ((Di.k (bits BinOp.and IntKind.i64 t1 t2)).bind MC)<|
 ci (t19=9) ((Di.k (bits BinOp.or IntKind.i64 t1 t2)).bind MC)<|
 ci (t19=10) ((Di.k (bits BinOp.xor IntKind.i64 t1 t2)).bind MC)<|
 ci (t19=11) (ck (0<=bits BinOp.and IntKind.i64 t2 31/\bits BinOp.and IntKind.i64 t2 31<=I IntKind.i64.bits)<|
 (Di.k (IntKind.i64.wrap (t1*2 ^ A1.toNat))).bind MC)<|
 ci (t19=12) (ck (0<=bits BinOp.and IntKind.i64 t2 31/\bits BinOp.and IntKind.i64 t2 31<=I IntKind.i64.bits)<|
 (Di.k (t1 / 2 ^ A1.toNat)).bind MC)<|
 ci (t19=13) ((Ff.k t1).bind fun y8=>
 ck (0<=bits BinOp.and IntKind.i64 t2 31/\bits BinOp.and IntKind.i64 t2 31<=I IntKind.i64.bits)<|
 (Di.k (y8.1.1 / 2 ^ A1.toNat)).bind MC)<|
 ci (t19=14) ((G1.k (decide (t1=t2))).bind fun y9=>
 (Di.k y9.1.1).bind MC)<|
 ci (t19=15) ((G1.k (!decide (t1=t2))).bind fun y10=>
 (Di.k y10.1.1).bind MC)<|
 ci (t19=16) ((G1.k (decide (t1<t2))).bind fun y11=>
 (Di.k y11.1.1).bind MC)<|
 ci (t19=17) ((G1.k (decide (t1<=t2))).bind fun y12=>
 (Di.k y12.1.1).bind MC)<|
 ci (t19=18) ((Ff.k t1).bind fun y13=>
 (Ff.k t2).bind fun y14=>
 (G1.k (decide (y13.1.1<y14.1.1))).bind fun y15=>
 (Di.k y15.1.1).bind MC)<|
 ci (t19=19) ((Ff.k t1).bind fun y14=>
 (Ff.k t2).bind fun y15=>
 (G1.k (decide (y14.1.1<=y15.1.1))).bind fun y16=>
 (Di.k y16.1.1).bind MC)<|
 ci (t19=20) (ck (BD (-t1))<|
 (Di.k (-t1)).bind MC)<|
 ci (t19=21) ((Di.k (bits BinOp.xor IntKind.i64 (-1) t1)).bind MC)<|
 ci (t19=22) ((Di.k (bits BinOp.and IntKind.i64 t1 255)).bind MC)<|
 ci (t19=23) ((G1.k (decide (t1=0))).bind fun y18=>
 (Di.k y18.1.1).bind MC)<|
 JE 0 false
def L7.kB (tK:BC.KT):L7.T:=fun t12 t14=>
 (Eh.k t12).bind fun y2=>
 JE y2.1.1 t14
def BC.kS (tK:BC.KT):BC.KT:=(L3.kB tK,L5.kB tK,L4.kB tK,L6.kB tK,L8.kB tK,L7.kB tK,())
def BC.kL (n:Nat):BC.KT:=C5 BC.kS n
def BC.k0 (tK:BC.KT) (o t1 t2:Int):MO Int Bool:=
 (Eh.k t1).bind fun y2=>
 (Eh.k t2).bind fun y3=>
 ci (o=1) (ck (BD (y2.1.1+y3.1.1))<|
 (Di.k (y2.1.1+y3.1.1)).bind MC)<|
 ci (o=2) (ck (BD (y2.1.1 -y3.1.1))<|
 (Di.k (y2.1.1 -y3.1.1)).bind MC)<|
 ci (o=3) (ck (BD (y2.1.1*y3.1.1))<|
 (Di.k (y2.1.1*y3.1.1)).bind MC)<|
 ci (o=4) (ci (o=4) (tK.1 o y2.1.1 y3.1.1)<|
 tK.2.1 o y2.1.1 y3.1.1 o)<|
 ci (o=5) (tK.1 o y2.1.1 y3.1.1)<|
 tK.2.1 o y2.1.1 y3.1.1 o
def BC.k (o t1 t2:Int):MO Int Bool:=BC.k0 (BC.kL 1000000) o t1 t2
def BC.Kc:=kd 145 BC.p fun x=>BC.k x.1.1 x.1.2.1 x.1.2.2.1
theorem BC.Kh:BC.Kc.Holds prog:=GB AH (hc Eh.Kh (hc Di.Kh (hc D8.Kh (hc Ff.Kh (hc G1.Kh hn))))) BC.ok (fun t x=>BC.k0 t x.1.1 x.1.2.1 x.1.2.2.1) (fun c=>(fun o t1 t2=>c 12 BC.nC rfl ((o,t1,t2,()),()),fun o t1 t2 t19=>c 16 BC.eu rfl ((o,t1,t2,(),t19,()),()),fun t9 t11=>c 15 BC.er rfl ((t9,t11,()),()),fun o t1 t2=>c 18 BC.jZ rfl ((o,t1,t2,()),()),fun t1 t2 t19=>c 22 BC.ja rfl ((t1,t2,(),t19,()),()),fun t12 t14=>c 21 BC.lV rfl ((t12,t14,()),()),())) BC.kS (by kernel_rfl)
def Jt.k (is:Bool):HH Int:=
 ci is (Ez 1)<|
 Ez 0
def Jt.Kc:=kd 114 Jt.p fun x=>Jt.k x.1.1
theorem Jt.Kh:Jt.Kc.Holds prog:=kh AH hn Jt.ok (by kernel_rfl)
abbrev m64.kr (r:BJ.T) (t1:Int) (t2:List Int) (k0:ER):R1 Int ER:=r.1 (((),t1,t2,()),(k0,()))
abbrev Cy.kr (r:BJ.T) (n:Int) (k0:ER) (k1:EF):R2 Int ER EF:=r.2.1 (((),n,(),()),(k0,k1,()))
abbrev BF.kr (r:BJ.T) (t1:Dop.AZ) (k0:ER) (k1:EF):R2 Int ER EF:=r.2.2.1 (((),t1,(),()),(k0,k1,()))
abbrev BA.kr (r:BJ.T) (t1:Int) (k0:ER) (k1:EF):R2 Int ER EF:=r.2.2.2.1 (((),t1,(),()),(k0,k1,()))
abbrev GS.kr (r:BJ.T) (x:Dop.AZ) (k0:ER) (k1:EF):R2 Int ER EF:=r.2.2.2.2.1 (((),x,(),()),(k0,k1,()))
abbrev EV.kr (r:BJ.T) (n:Int) (k1:ER) (k3:EF):Option ((Int×Unit)×((Unit×Unit)×ER×(Unit×Unit)×EF×Unit)):=r.2.2.2.2.2.1 ((n,(),(),()),(((),()),k1,((),()),k3,()))
abbrev Gx.kr (r:BJ.T) (x:Dop.AZ) (k0:ER) (k1:EF):R2 Int ER EF:=r.2.2.2.2.2.2.1 (((),x,(),()),(k0,k1,()))
abbrev A7.kr (r:BJ.T) (t1:Dop.AZ) (k0:ER) (k1:EF):R2 Int ER EF:=r.2.2.2.2.2.2.2.1 (((),t1,(),()),(k0,k1,()))
abbrev HN.kr (r:BJ.T) (x:Dop.AZ) (k0:ER) (k1:EF):R2 Int ER EF:=r.2.2.2.2.2.2.2.2.1 (((),x,(),()),(k0,k1,()))
abbrev Ol.T:Type:=ER->Dop.Dc->EF->R1 Int ER
abbrev G2.T:Type:=ER->Dop.Dc->EF->R1 Int ER
abbrev m64.KT:Type:=Ol.T×G2.T×Unit
def Ol.kB (rK:BJ.T) (tK:m64.KT):Ol.T:=fun k0 b1 k2=>
 (Cy.kr rK b1.body k0 k2).bind fun y2=>
 ci (y2.1.1=4) ((FR.k y2.2.1).bind fun y4=>
 ci y4.1.1 (tK.2.1 y4.2.1 b1 ((EF.QN y2.2.2.1 1)))<|
 ck (BD (ER.sp y4.2.1 -b1.frame))<|
 Cn (EF.told y2.2.2.1) (ER.ZB y4.2.1 (ER.sp y4.2.1 -b1.frame)))<|
 ck (BD (ER.sp y2.2.1 -b1.frame))<|
 Cn (EF.told y2.2.2.1) (ER.ZB y2.2.1 (ER.sp y2.2.1 -b1.frame))
def G2.kB (rK:BJ.T) (tK:m64.KT):G2.T:=fun k0 b1 k2=>
 (Cy.kr rK b1.body k0 k2).bind fun y2=>
 ci (y2.1.1=4) ((FR.k y2.2.1).bind fun y4=>
 ci y4.1.1 (tK.2.1 y4.2.1 b1 ((EF.QN y2.2.2.1 1)))<|
 ck (BD (ER.sp y4.2.1 -b1.frame))<|
 Cn (EF.told y2.2.2.1) (ER.ZB y4.2.1 (ER.sp y4.2.1 -b1.frame)))<|
 ck (BD (ER.sp y2.2.1 -b1.frame))<|
 Cn (EF.told y2.2.2.1) (ER.ZB y2.2.1 (ER.sp y2.2.1 -b1.frame))
def m64.kS (rK:BJ.T) (tK:m64.KT):m64.KT:=(Ol.kB rK tK,G2.kB rK tK,())
def m64.kL (rK:BJ.T) (n:Nat):m64.KT:=C5 (m64.kS rK) n
def m64.k0 (rK:BJ.T) (tK:m64.KT) (t1:Int) (t2:List Int) (k0:ER):R1 Int ER:=
 let A1:=List.getD k0.p.funcs t1.toNat Dop.d11
 let A3:=BD (k0.sp+A1.frame)
 let A2:=List.replicate A1.Al.toNat (0:Int)
 ci (!(k0.end_=0)) (Cn 0 k0)<|
 ci (t1<0) (Cn 0 k0)<|
 ck (0<=t1/\t1<I k0.p.funcs.length)<|
 ck A3<|
 ci (I k0.mem.length<k0.sp+A1.frame) ((NP.k 3 0 k0).bind MB)<|
 ck (0<=A1.Al/\A1.Al<=A1.Al/\A1.Al*(I (8:Nat)+1)<=140737488355328)<|
 ck A3<|
 tK.1 ((ER.ZB k0 (k0.sp+A1.frame))) A1 ((List.getD k0.p.funcs t1.toNat Dop.d11,List.take A2.length t2++List.drop t2.length A2,k0.sp,0,[],0,0,()))
def m64.kf (rK:BJ.T) (t1:Int) (t2:List Int) (k0:ER):R1 Int ER:=m64.k0 rK (m64.kL rK 1000000) t1 t2 k0
def Cy.kf (rK:BJ.T) (n:Int) (k0:ER) (k1:EF):R2 Int ER EF:=
 ci (!(k1.FY=0)) ((Bp.k n k0 k1).bind fun y3=>
 ci (!y3.1.1) (Ac 0 y3.2.1 y3.2.2.1)<|
 ci (EF.FY y3.2.2.1=0) ((FR.k y3.2.1).bind fun y6=>
 ci (!y6.1.1) (Ac 5 y6.2.1 y3.2.2.1)<|
 ck (0<=n/\n<I (ER.p y6.2.1).nodes.length)<|
 (BF.kr rK (List.getD (ER.p y6.2.1).nodes n.toNat Dop.d5) y6.2.1 y3.2.2.1).bind fun y8=>
 ci (!(ER.end_ y8.2.1=0)) (Ac 5 y8.2.1 y8.2.2.1)<|
 Ac y8.1.1 y8.2.1 y8.2.2.1)<|
 ck (0<=n/\n<I (ER.p y3.2.1).nodes.length)<|
 (BF.kr rK (List.getD (ER.p y3.2.1).nodes n.toNat Dop.d5) y3.2.1 y3.2.2.1).bind fun y6=>
 ci (!(ER.end_ y6.2.1=0)) (Ac 5 y6.2.1 y6.2.2.1)<|
 Ac y6.1.1 y6.2.1 y6.2.2.1)<|
 ci (k1.FY=0) ((FR.k k0).bind fun y4=>
 ci (!y4.1.1) (Ac 5 y4.2.1 k1)<|
 ck (0<=n/\n<I (ER.p y4.2.1).nodes.length)<|
 (BF.kr rK (List.getD (ER.p y4.2.1).nodes n.toNat Dop.d5) y4.2.1 k1).bind fun y6=>
 ci (!(ER.end_ y6.2.1=0)) (Ac 5 y6.2.1 y6.2.2.1)<|
 Ac y6.1.1 y6.2.1 y6.2.2.1)<|
 ck (0<=n/\n<I k0.p.nodes.length)<|
 (BF.kr rK (List.getD k0.p.nodes n.toNat Dop.d5) k0 k1).bind fun y4=>
 ci (!(ER.end_ y4.2.1=0)) (Ac 5 y4.2.1 y4.2.2.1)<|
 Ac y4.1.1 y4.2.1 y4.2.2.1
abbrev Gu.T:Type:=Int->ER->EF->Dop.AZ->R2 Int ER EF
abbrev Lr.T:Type:=ER->EF->Dop.AZ->R2 Int ER EF
abbrev IN.T:Type:=Int->ER->EF->Dop.AZ->R2 Int ER EF
abbrev Eb.T:Type:=List Int->Int->Int->ER->EF->R2 Int ER EF
abbrev BF.KT:Type:=Gu.T×Lr.T×IN.T×Eb.T×Unit
def Gu.kB (rK:BJ.T) (tK:BF.KT):Gu.T:=fun t11 k0 k1 b2=>
 let A1:=Cy.kr rK b2.a k0 k1
 ci (t11=35) (Ac 1 k0 k1)<|
 ci (t11=36) (Ac 2 k0 k1)<|
 ci (t11=37) (ci (0<=b2.a) ((BA.kr rK b2.a k0 k1).bind fun y6=>
 Ac 3 y6.2.1 (EF.Tf y6.2.2.1 y6.1.1))<|
 Ac 3 k0 k1)<|
 ci (t11=38) (Ac 4 k0 (EF.ji k1 b2.text))<|
 ci (t11=39) (ci (k1.FY=1) (ci (k1.nS=b2.text) ((Cy.kr rK b2.a k0 ((EF.QN k1 0))).bind BP)<|
 A1.bind BP)<|
 A1.bind BP)<|
 ci (t11=41) (ci (t11=41) (tK.2.1 k0 k1 b2)<|
 tK.2.2.1 t11 k0 k1 b2)<|
 ci (t11=42) (tK.2.1 k0 k1 b2)<|
 tK.2.2.1 t11 k0 k1 b2
def Lr.kB (rK:BJ.T) (tK:BF.KT):Lr.T:=fun k0 k1 b2=>
 let A2:=Cy.kr rK b2.a k0 k1
 let A1:=(Cy.kr rK b2.a k0 ((EF.QN k1 0))).bind BP
 ci (k1.FY=2) (ci (b2.kind=41) (ci (b2.n=k1.key) A1<|
 ci (k1.FY=3) (ci (b2.kind=42) A1<|
 A2.bind BP)<|
 A2.bind BP)<|
 ci (k1.FY=3) (ci (b2.kind=42) A1<|
 A2.bind BP)<|
 A2.bind BP)<|
 ci (k1.FY=3) (ci (b2.kind=42) A1<|
 A2.bind BP)<|
 A2.bind BP
def IN.kB (rK:BJ.T) (tK:BF.KT):IN.T:=fun t11 k0 k1 b2=>
 ci (t11=40) ((HN.kr rK b2 k0 k1).bind BP)<|
 ci (t11=43) ((C6.k k0.p b2.a).bind fun y4=>
 tK.2.2.2.1 y4.1.1 (I y4.1.1.length) 0 k0 k1)<|
 Ac 0 k0 k1
def Eb.kB (rK:BJ.T) (tK:BF.KT):Eb.T:=fun t182 t183 t184 k0 k1=>
 ci (t184<t183) (ck (0<=t184/\t184<I t182.length)<|
 ck (t184.toNat<t182.length)<|
 (Cy.kr rK (List.getD t182 t184.toNat 0) k0 k1).bind fun y3=>
 ci (!(y3.1.1=0)) (Ac y3.1.1 y3.2.1 y3.2.2.1)<|
 ck (BD (t184+1))<|
 tK.2.2.2.1 t182 t183 (t184+1) y3.2.1 y3.2.2.1)<|
 Ac 0 k0 k1
def BF.kS (rK:BJ.T) (tK:BF.KT):BF.KT:=(Gu.kB rK tK,Lr.kB rK tK,IN.kB rK tK,Eb.kB rK tK,())
def BF.kL (rK:BJ.T) (n:Nat):BF.KT:=C5 (BF.kS rK) n
def BF.k0 (rK:BJ.T) (tK:BF.KT) (t1:Dop.AZ) (k0:ER) (k1:EF):R2 Int ER EF:=
 let A2:=BA.kr rK t1.a k0 k1
 let A1:=(A7.kr rK t1 k0 k1).bind BP
 ci (t1.kind=30) (ci (0<=t1.a) (A2.bind fun y4=>
 Ac 0 y4.2.1 y4.2.2.1)<|
 Ac 0 k0 k1)<|
 ci (t1.kind=31) (ci (!(k1.FY=0)) ((Bp.k t1.b k0 k1).bind fun y5=>
 ci y5.1.1 ((Cy.kr rK t1.b y5.2.1 y5.2.2.1).bind BP)<|
 (Cy.kr rK t1.c y5.2.1 y5.2.2.1).bind BP)<|
 A2.bind fun y5=>
 ci (!(y5.1.1=0)) ((Cy.kr rK t1.b y5.2.1 y5.2.2.1).bind BP)<|
 ci (0<=t1.c) (ci (ER.end_ y5.2.1=0) ((Cy.kr rK t1.c y5.2.1 y5.2.2.1).bind BP)<|
 Ac 0 y5.2.1 y5.2.2.1)<|
 Ac 0 y5.2.1 y5.2.2.1)<|
 ci (t1.kind=32) (ci (t1.kind=32) A1<|
 tK.1 t1.kind k0 k1 t1)<|
 ci (t1.kind=33) (ci (t1.kind=33) A1<|
 tK.1 t1.kind k0 k1 t1)<|
 ci (t1.kind=34) A1<|
 tK.1 t1.kind k0 k1 t1
def BF.kf (rK:BJ.T) (t1:Dop.AZ) (k0:ER) (k1:EF):R2 Int ER EF:=BF.k0 rK (BF.kL rK 1000000) t1 k0 k1
abbrev Fm.T:Type:=Int->ER->EF->Dop.AZ->R2 Int ER EF
abbrev D6.T:Type:=Int->ER->EF->Dop.AZ->R2 Int ER EF
abbrev Ls.T:Type:=List Int->List Int->Int->Int->ER->EF->Dop.AZ->R2 Int ER EF
abbrev BA.KT:Type:=Fm.T×D6.T×Ls.T×Unit
def Fm.kB (rK:BJ.T) (tK:BA.KT):Fm.T:=fun t28 k0 k1 b4=>
 let A1:=(Gx.kr rK b4 k0 k1).bind BP
 ci (t28=6) ((EV.kr rK b4.a k0 k1).bind fun y3=>
 ci (ER.end_ y3.2.2.1=0) (ck (0<=b4.n/\b4.n<I (EF.Al y3.2.2.2.2.1).length)<|
 ck (b4.n.toNat<(EF.Al y3.2.2.2.2.1).length)<|
 Ac y3.1.1 y3.2.2.1 (EF.Te y3.2.2.2.2.1 ((EF.Al y3.2.2.2.2.1).set b4.n.toNat y3.1.1)))<|
 Ac y3.1.1 y3.2.2.1 y3.2.2.2.2.1)<|
 ci (t28=7) (ci (t28=7) A1<|
 tK.2.1 t28 k0 k1 b4)<|
 ci (t28=8) A1<|
 tK.2.1 t28 k0 k1 b4
def D6.kB (rK:BJ.T) (tK:BA.KT):D6.T:=fun t28 k0 k1 b3=>
 let A2:=List.getD k0.input (Int.toNat 0) 0
 let A1:=EV.kr rK b3.a k0 k1
 ci (t28=9) (A1.bind fun y3=>
 ci (!(y3.1.1=0)) ((EV.kr rK b3.b y3.2.2.1 y3.2.2.2.2.1).bind fun y5=>
 Ac y5.1.1 y5.2.2.1 y5.2.2.2.2.1)<|
 (EV.kr rK b3.c y3.2.2.1 y3.2.2.2.2.1).bind fun y5=>
 Ac y5.1.1 y5.2.2.1 y5.2.2.2.2.1)<|
 ci (t28=10) (A1.bind fun y4=>
 ci (!(y4.1.1=0)) ((EV.kr rK b3.b y4.2.2.1 y4.2.2.2.2.1).bind fun y6=>
 (Jt.k (!decide (y6.1.1=0))).bind fun y7=>
 Ac y7.1.1 y6.2.2.1 y6.2.2.2.2.1)<|
 (Jt.k false).bind fun y6=>
 Ac y6.1.1 y4.2.2.1 y4.2.2.2.2.1)<|
 ci (t28=11) (A1.bind fun y5=>
 ci (!(y5.1.1=0)) ((Jt.k true).bind fun y7=>
 Ac y7.1.1 y5.2.2.1 y5.2.2.2.2.1)<|
 (EV.kr rK b3.b y5.2.2.1 y5.2.2.2.2.1).bind fun y7=>
 (Jt.k (!decide (y7.1.1=0))).bind fun y8=>
 Ac y8.1.1 y7.2.2.1 y7.2.2.2.2.1)<|
 ci (t28=12) ((C6.k k0.p b3.a).bind fun y6=>
 tK.2.2.1 [] y6.1.1 (I y6.1.1.length) 0 k0 k1 b3)<|
 ci (t28=13) (ci (I k0.input.length=0) (Ac (-1) k0 k1)<|
 ck ((0:Int)<=0/\0<I k0.input.length)<|
 ck ((0:Int)<=1/\1<=I k0.input.length/\I k0.input.length<=I k0.input.length)<|
 ck (BD A2)<|
 Ac A2 (ER.Uz k0 (List.drop (Int.toNat 1) (List.take (I k0.input.length).toNat k0.input))) k1)<|
 ci (t28=14) (A1.bind fun y8=>
 ci (ER.end_ y8.2.2.1=0) (ck (DK none (room 1 ((ER.out y8.2.2.1).length+(IntKind.u8.wrap (bits BinOp.and IntKind.i64 y8.1.1 255)::[]).length)))<|
 Ac (bits BinOp.and IntKind.i64 y8.1.1 255) (ER.jh y8.2.2.1 (ER.out y8.2.2.1++IntKind.u8.wrap (bits BinOp.and IntKind.i64 y8.1.1 255)::[])) y8.2.2.2.2.1)<|
 Ac (bits BinOp.and IntKind.i64 y8.1.1 255) y8.2.2.1 y8.2.2.2.2.1)<|
 A1.bind fun y8=>
 (EV.kr rK b3.b y8.2.2.1 y8.2.2.2.2.1).bind fun y9=>
 Ac y9.1.1 y9.2.2.1 y9.2.2.2.2.1
def Ls.kB (rK:BJ.T) (tK:BA.KT):Ls.T:=fun t10 t140 t141 t142 k0 k1 b3=>
 ci (t142<t141) (ck (0<=t142/\t142<I t140.length)<|
 ck (t142.toNat<t140.length)<|
 (EV.kr rK (List.getD t140 t142.toNat 0) k0 k1).bind fun y3=>
 ck (DK none (room 8 (t10.length+(y3.1.1::[]).length)))<|
 ck (BD (t142+1))<|
 tK.2.2.1 (t10++y3.1.1::[]) t140 t141 (t142+1) y3.2.2.1 y3.2.2.2.2.1 b3)<|
 (US.k k0.p b3.text).bind fun y3=>
 (m64.kr rK y3.1.1 t10 k0).bind fun y4=>
 Ac y4.1.1 y4.2.1 k1
def BA.kS (rK:BJ.T) (tK:BA.KT):BA.KT:=(Fm.kB rK tK,D6.kB rK tK,Ls.kB rK tK,())
def BA.kL (rK:BJ.T) (n:Nat):BA.KT:=C5 (BA.kS rK) n
def BA.k0 (rK:BJ.T) (tK:BA.KT) (t1:Int) (k0:ER) (k1:EF):R2 Int ER EF:=
 (FR.k k0).bind fun y2=>
 let z1:R2 Int ER EF:=
 (GS.kr rK (List.getD (ER.p y2.2.1).nodes t1.toNat Dop.d5) y2.2.1 k1).bind BP
 ci (!y2.1.1) (Ac 0 y2.2.1 k1)<|
 ck (0<=t1/\t1<I (ER.p y2.2.1).nodes.length)<|
 ci ((List.getD (ER.p y2.2.1).nodes t1.toNat Dop.d5).kind=1) (Ac ((List.getD (ER.p y2.2.1).nodes t1.toNat Dop.d5).n) y2.2.1 k1)<|
 ci ((List.getD (ER.p y2.2.1).nodes t1.toNat Dop.d5).kind=2) (ck (0<=(List.getD (ER.p y2.2.1).nodes t1.toNat Dop.d5).n/\(List.getD (ER.p y2.2.1).nodes t1.toNat Dop.d5).n<I k1.Al.length)<|
 ck ((List.getD (ER.p y2.2.1).nodes t1.toNat Dop.d5).n.toNat<k1.Al.length)<|
 Ac (List.getD k1.Al (List.getD (ER.p y2.2.1).nodes t1.toNat Dop.d5).n.toNat 0) y2.2.1 k1)<|
 ci ((List.getD (ER.p y2.2.1).nodes t1.toNat Dop.d5).kind=3) (ck (BD (k1.base+(List.getD (ER.p y2.2.1).nodes t1.toNat Dop.d5).n))<|
 (Eh.k (k1.base+(List.getD (ER.p y2.2.1).nodes t1.toNat Dop.d5).n)).bind fun y7=>
 Ac y7.1.1 y2.2.1 k1)<|
 ci ((List.getD (ER.p y2.2.1).nodes t1.toNat Dop.d5).kind=4) (ci ((List.getD (ER.p y2.2.1).nodes t1.toNat Dop.d5).kind=4) (z1)<|
 tK.1 ((List.getD (ER.p y2.2.1).nodes t1.toNat Dop.d5).kind) y2.2.1 k1 (List.getD (ER.p y2.2.1).nodes t1.toNat Dop.d5))<|
 ci ((List.getD (ER.p y2.2.1).nodes t1.toNat Dop.d5).kind=5) (z1)<|
 tK.1 ((List.getD (ER.p y2.2.1).nodes t1.toNat Dop.d5).kind) y2.2.1 k1 (List.getD (ER.p y2.2.1).nodes t1.toNat Dop.d5)
def BA.kf (rK:BJ.T) (t1:Int) (k0:ER) (k1:EF):R2 Int ER EF:=BA.k0 rK (BA.kL rK 1000000) t1 k0 k1
def GS.kf (rK:BJ.T) (x:Dop.AZ) (k0:ER) (k1:EF):R2 Int ER EF:=
 (BA.kr rK x.a k0 k1).bind fun y2=>
 ci (x.kind=5) ((BA.kr rK x.b y2.2.1 y2.2.2.1).bind fun y4=>
 ci (!(ER.end_ y4.2.1=0)) (Ac 0 y4.2.1 y4.2.2.1)<|
 (Ff.k y2.1.1).bind fun y6=>
 ci (y6.1.1<1) ((NP.k 2 1 y4.2.1).bind fun y8=>
 Ac 0 y8.2.1 y4.2.2.1)<|
 ci (I (ER.mem y4.2.1).length<=y6.1.1) ((NP.k 2 1 y4.2.1).bind fun y9=>
 Ac 0 y9.2.1 y4.2.2.1)<|
 ck (0<=y6.1.1/\y6.1.1<I (ER.mem y4.2.1).length)<|
 ci (x.kind=4) (ck (y6.1.1.toNat<(ER.mem y4.2.1).length)<|
 Ac (List.getD (ER.mem y4.2.1) y6.1.1.toNat 0) y4.2.1 y4.2.2.1)<|
 ck (y6.1.1.toNat<(ER.mem y4.2.1).length)<|
 Ac y4.1.1 (ER.ZA y4.2.1 ((ER.mem y4.2.1).set y6.1.1.toNat y4.1.1)) y4.2.2.1)<|
 ci (!(ER.end_ y2.2.1=0)) (Ac 0 y2.2.1 y2.2.2.1)<|
 (Ff.k y2.1.1).bind fun y5=>
 ci (y5.1.1<1) ((NP.k 2 1 y2.2.1).bind fun y7=>
 Ac 0 y7.2.1 y2.2.2.1)<|
 ci (I (ER.mem y2.2.1).length<=y5.1.1) ((NP.k 2 1 y2.2.1).bind fun y8=>
 Ac 0 y8.2.1 y2.2.2.1)<|
 ck (0<=y5.1.1/\y5.1.1<I (ER.mem y2.2.1).length)<|
 ci (x.kind=4) (ck (y5.1.1.toNat<(ER.mem y2.2.1).length)<|
 Ac (List.getD (ER.mem y2.2.1) y5.1.1.toNat 0) y2.2.1 y2.2.2.1)<|
 ck (y5.1.1.toNat<(ER.mem y2.2.1).length)<|
 Ac 0 (ER.ZA y2.2.1 ((ER.mem y2.2.1).set y5.1.1.toNat 0)) y2.2.2.1
def EV.kf (rK:BJ.T) (n:Int) (k1:ER) (k3:EF):Option ((Int×Unit)×((Unit×Unit)×ER×(Unit×Unit)×EF×Unit)):=
 (BA.kr rK n k1 k3).bind fun y2=>
 some ((y2.1.1,()),(((),()),(y2.2.1,(((),()),(y2.2.2.1,())))))
def Gx.kf (rK:BJ.T) (x:Dop.AZ) (k0:ER) (k1:EF):R2 Int ER EF:=
 (BA.kr rK x.a k0 k1).bind fun y2=>
 ci (x.kind=8) ((BA.kr rK x.b y2.2.1 y2.2.2.1).bind fun y4=>
 ci (!(ER.end_ y4.2.1=0)) (Ac 0 y4.2.1 y4.2.2.1)<|
 (BC.k x.n y2.1.1 y4.1.1).bind fun y6=>
 ci (!y6.1.2.1) ((NP.k 2 2 y4.2.1).bind fun y8=>
 Ac y8.1.1 y8.2.1 y4.2.2.1)<|
 Ac y6.1.1 y4.2.1 y4.2.2.1)<|
 ci (!(ER.end_ y2.2.1=0)) (Ac 0 y2.2.1 y2.2.2.1)<|
 (BC.k x.n y2.1.1 0).bind fun y5=>
 ci (!y5.1.2.1) ((NP.k 2 2 y2.2.1).bind fun y7=>
 Ac y7.1.1 y7.2.1 y2.2.2.1)<|
 Ac y5.1.1 y2.2.1 y2.2.2.1
abbrev Hi.T:Type:=Int->ER->EF->Dop.AZ->R2 Int ER EF
abbrev F7.T:Type:=Int->Bool->ER->EF->Dop.AZ->R2 Int ER EF
abbrev Fo.T:Type:=Int->Bool->Int->ER->EF->Dop.AZ->R2 Int ER EF
abbrev Lt.T:Type:=Int->ER->EF->R2 Int ER EF
abbrev IP.T:Type:=Int->Bool->ER->EF->Dop.AZ->R2 Int ER EF
abbrev IQ.T:Type:=Int->Bool->ER->EF->Dop.AZ->R2 Int ER EF
abbrev A7.KT:Type:=Hi.T×F7.T×Fo.T×Lt.T×IP.T×IQ.T×Unit
def Hi.kB (rK:BJ.T) (tK:A7.KT):Hi.T:=fun t7 k0 k1 b2=>
 ci (!(k1.FY=0)) (tK.2.1 t7 true k0 k1 b2)<|
 tK.2.1 t7 (decide (b2.kind=33)) k0 k1 b2
def F7.kB (rK:BJ.T) (tK:A7.KT):F7.T:=fun t7 t8 k0 k1 b2=>
 ci (b2.kind=34) (tK.2.2.1 t7 t8 b2.b k0 k1 b2)<|
 tK.2.2.1 t7 t8 b2.a k0 k1 b2
def Fo.kB (rK:BJ.T) (tK:A7.KT):Fo.T:=fun t7 t8 t9 k0 k1 b2=>
 let A1:=Cy.kr rK t7 k0 k1
 let F1:Y2 Int ER EF->R2 Int ER EF:=fun y4=>
 ci (y4.1.1=1) (Ac 0 y4.2.1 y4.2.2.1)<|
 ci (y4.1.1=3) (ci (y4.1.1=3) (tK.2.2.2.1 y4.1.1 y4.2.1 y4.2.2.1)<|
 tK.2.2.2.2.1 t7 false y4.2.1 y4.2.2.1 b2)<|
 ci (y4.1.1=4) (ci (y4.1.1=4) (tK.2.2.2.1 y4.1.1 y4.2.1 y4.2.2.1)<|
 tK.2.2.2.2.1 t7 false y4.2.1 y4.2.2.1 b2)<|
 ci (y4.1.1=5) (tK.2.2.2.1 y4.1.1 y4.2.1 y4.2.2.1)<|
 tK.2.2.2.2.1 t7 false y4.2.1 y4.2.2.1 b2
 ci (!t8) (ci (0<=t9) ((BA.kr rK t9 k0 k1).bind fun y4=>
 ci (y4.1.1=0) (Ac 0 y4.2.1 y4.2.2.1)<|
 ci (!t8) (ci (t9<0) ((FR.k y4.2.1).bind fun y8=>
 ci (!y8.1.1) (Ac 5 y8.2.1 y4.2.2.1)<|
 (Cy.kr rK t7 y8.2.1 y4.2.2.1).bind F1)<|
 (Cy.kr rK t7 y4.2.1 y4.2.2.1).bind F1)<|
 (Cy.kr rK t7 y4.2.1 y4.2.2.1).bind F1)<|
 ci (!t8) (ci (t9<0) ((FR.k k0).bind fun y6=>
 ci (!y6.1.1) (Ac 5 y6.2.1 k1)<|
 (Cy.kr rK t7 y6.2.1 k1).bind F1)<|
 A1.bind F1)<|
 A1.bind F1)<|
 ci (!t8) (ci (t9<0) ((FR.k k0).bind fun y5=>
 ci (!y5.1.1) (Ac 5 y5.2.1 k1)<|
 (Cy.kr rK t7 y5.2.1 k1).bind F1)<|
 A1.bind F1)<|
 A1.bind F1
def Lt.kB (rK:BJ.T) (tK:A7.KT):Lt.T:=fun t10 k0 k1=>
 Ac t10 k0 k1
def IP.kB (rK:BJ.T) (tK:A7.KT):IP.T:=fun t7 t8 k0 k1 b2=>
 ci (b2.kind=34) (ci (0<=b2.c) ((BA.kr rK b2.c k0 k1).bind fun y4=>
 tK.2.2.2.2.2.1 t7 t8 y4.2.1 y4.2.2.1 b2)<|
 tK.2.2.2.2.2.1 t7 t8 k0 k1 b2)<|
 tK.2.2.2.2.2.1 t7 t8 k0 k1 b2
def IQ.kB (rK:BJ.T) (tK:A7.KT):IQ.T:=fun t7 t8 k0 k1 b2=>
 ci (!(k0.end_=0)) (Ac 5 k0 k1)<|
 tK.2.1 t7 t8 k0 k1 b2
def A7.kS (rK:BJ.T) (tK:A7.KT):A7.KT:=(Hi.kB rK tK,F7.kB rK tK,Fo.kB rK tK,Lt.kB rK tK,IP.kB rK tK,IQ.kB rK tK,())
def A7.kL (rK:BJ.T) (n:Nat):A7.KT:=C5 (A7.kS rK) n
def A7.k0 (rK:BJ.T) (tK:A7.KT) (t1:Dop.AZ) (k0:ER) (k1:EF):R2 Int ER EF:=
 ci (t1.kind=34) (ci (k1.FY=0) (ci (0<=t1.a) ((BA.kr rK t1.a k0 k1).bind fun y5=>
 tK.1 t1.d y5.2.1 y5.2.2.1 t1)<|
 tK.1 t1.d k0 k1 t1)<|
 tK.1 t1.d k0 k1 t1)<|
 tK.1 t1.b k0 k1 t1
def A7.kf (rK:BJ.T) (t1:Dop.AZ) (k0:ER) (k1:EF):R2 Int ER EF:=A7.k0 rK (A7.kL rK 1000000) t1 k0 k1
def HN.kf (rK:BJ.T) (x:Dop.AZ) (k0:ER) (k1:EF):R2 Int ER EF:=(Aj (S:=Dop.D4) prog 93 tb (BJ.ct rK++[Bp.LO]) HN.p).J6 3000 1000000 HN.p.sp (((),x,(),()),(k0,k1,()))
def BJ.kS (r:BJ.T):BJ.T:=(fun x=>m64.kf r x.1.2.1 x.1.2.2.1 x.2.1,fun x=>Cy.kf r x.1.2.1 x.2.1 x.2.2.1,fun x=>BF.kf r x.1.2.1 x.2.1 x.2.2.1,fun x=>BA.kf r x.1.2.1 x.2.1 x.2.2.1,fun x=>GS.kf r x.1.2.1 x.2.1 x.2.2.1,fun x=>EV.kf r x.1.1 x.2.2.1 x.2.2.2.2.1,fun x=>Gx.kf r x.1.2.1 x.2.1 x.2.2.1,fun x=>A7.kf r x.1.2.1 x.2.1 x.2.2.1,fun x=>HN.kf r x.1.2.1 x.2.1 x.2.2.1,())
def BJ.kR (n:Nat):BJ.T:=C5 BJ.kS n
def m64.Kc (n:Nat):=kd 10 m64.p (BJ.kR n).1
def m64.LO:=m64.Kc FU
def m64.k:=m64.kr (BJ.kR FU)
def Cy.Kc (n:Nat):=kd 22 Cy.p (BJ.kR n).2.1
def BF.Kc (n:Nat):=kd 49 BF.p (BJ.kR n).2.2.1
def BA.Kc (n:Nat):=kd 91 BA.p (BJ.kR n).2.2.2.1
def GS.Kc (n:Nat):=kd 112 GS.p (BJ.kR n).2.2.2.2.1
def EV.Kc (n:Nat):=kd 111 EV.p (BJ.kR n).2.2.2.2.2.1
def Gx.Kc (n:Nat):=kd 113 Gx.p (BJ.kR n).2.2.2.2.2.2.1
def A7.Kc (n:Nat):=kd 92 A7.p (BJ.kR n).2.2.2.2.2.2.2.1
def HN.Kc (n:Nat):=kd 93 HN.p (BJ.kR n).2.2.2.2.2.2.2.2.1
def BJ.SK (n:Nat):List (By Dop.D4):=[m64.Kc n,Cy.Kc n,BF.Kc n,BA.Kc n,GS.Kc n,EV.Kc n,Gx.Kc n,A7.Kc n,HN.Kc n]
theorem BJ.E5: ∀ n,(m64.Kc n).Holds prog/\(Cy.Kc n).Holds prog/\(BF.Kc n).Holds prog/\(BA.Kc n).Holds prog/\(GS.Kc n).Holds prog/\(EV.Kc n).Holds prog/\(Gx.Kc n).Holds prog/\(A7.Kc n).Holds prog/\(HN.Kc n).Holds prog/\True
 | 0=>⟨AO AH m64.ok,AO AH Cy.ok,AO AH BF.ok,AO AH BA.ok,AO AH GS.ok,AO AH EV.ok,AO AH Gx.ok,AO AH A7.ok,AO AH HN.ok,trivial⟩
 | n+1=>by
  obtain ⟨h0,h1,h2,h3,h4,h5,h6,h7,h8,_⟩:=BJ.E5 n
  have hh: ∀ c∈BJ.SK n,c.Holds prog:=(hc h0 (hc h1 (hc h2 (hc h3 (hc h4 (hc h5 (hc h6 (hc h7 (hc h8 hn)))))))))
  exact ⟨GB AH (Ad hh (hc NP.Kh (hc FR.Kh hn))) m64.ok (fun t x=>m64.k0 (BJ.kR n) t x.1.2.1 x.1.2.2.1 x.2.1) (fun c=>(fun k0 b1 k2=>c 9 m64.q9 rfl (((),(),(),()),(k0,(b1,()),k2,())),fun k0 b1 k2=>c 100009 m64.Ut rfl (((),(),(),()),(k0,(b1,()),k2,())),())) (m64.kS (BJ.kR n)) (by kernel_rfl),
   kh AH (Ad hh (hc Bp.Ie (hc FR.Kh hn))) Cy.ok (by kernel_rfl),
   GB AH (Ad hh (hc Bp.Ie (hc C6.Kh hn))) BF.ok (fun t x=>BF.k0 (BJ.kR n) t x.1.2.1 x.2.1 x.2.2.1) (fun c=>(fun t11 k0 k1 b2=>c 18 BF.jZ rfl (((),(),(),t11,()),(k0,k1,(b2,()),())),fun k0 k1 b2=>c 35 BF.nK rfl (((),(),(),()),(k0,k1,(b2,()),())),fun t11 k0 k1 b2=>c 38 BF.nL rfl (((),(),(),t11,()),(k0,k1,(b2,()),())),fun t182 t183 t184 k0 k1=>c 42 BF.nO rfl (((),(),t182,t183,t184,()),(k0,k1,())),())) (BF.kS (BJ.kR n)) (by kernel_rfl),
   GB AH (Ad hh (hc FR.Kh (hc Eh.Kh (hc Jt.Kh (hc C6.Kh (hc US.Kh hn)))))) BA.ok (fun t x=>BA.k0 (BJ.kR n) t x.1.2.1 x.2.1 x.2.2.1) (fun c=>(fun t28 k0 k1 b4=>c 15 BA.er rfl (((),(),(),(),t28,()),(k0,k1,((),()),((),()),(b4,()),())),fun t28 k0 k1 b3=>c 23 BA.jb rfl (((),(),(),t28,()),(k0,k1,((),()),(b3,()),((),()),())),fun t10 t140 t141 t142 k0 k1 b3=>c 34 BA.nJ rfl (((),(),(),t10,t140,t141,t142,()),(k0,k1,((),()),(b3,()),((),()),())),())) (BA.kS (BJ.kR n)) (by kernel_rfl),
   kh AH (Ad hh (hc Ff.Kh (hc NP.Kh hn))) GS.ok (by kernel_rfl),
   kh AH (Ad hh hn) EV.ok (by kernel_rfl),
   kh AH (Ad hh (hc BC.Kh (hc NP.Kh hn))) Gx.ok (by kernel_rfl),
   GB AH (Ad hh (hc FR.Kh hn)) A7.ok (fun t x=>A7.k0 (BJ.kR n) t x.1.2.1 x.2.1 x.2.2.1) (fun c=>(fun t7 k0 k1 b2=>c 6 A7.q6 rfl (((),(),(),t7,()),(k0,k1,(b2,()),())),fun t7 t8 k0 k1 b2=>c 7 A7.q7 rfl (((),(),(),t7,t8,()),(k0,k1,(b2,()),())),fun t7 t8 t9 k0 k1 b2=>c 10 A7.Us rfl (((),(),(),t7,t8,t9,()),(k0,k1,(b2,()),())),fun t10 k0 k1=>c 22 A7.ja rfl ((t10,()),(k0,k1,())),fun t7 t8 k0 k1 b2=>c 23 A7.jb rfl (((),(),(),t7,t8,()),(k0,k1,(b2,()),())),fun t7 t8 k0 k1 b2=>c 25 A7.nE rfl (((),(),(),t7,t8,()),(k0,k1,(b2,()),())),())) (A7.kS (BJ.kR n)) (by kernel_rfl),
   kh AH (Ad hh (hc Bp.Ie hn)) HN.ok (by kernel_rfl),
   trivial⟩
theorem m64.Ie:m64.LO.Holds prog:=(BJ.E5 FU).1
abbrev LD.T:Type:=List Dop.ML->Int->Int->Dop.JM->Int->Int->List Int->ER->HH Dop.SO
abbrev Ho.KT:Type:=LD.T×Unit
def LD.kB (tK:Ho.KT):LD.T:=fun t22 t23 t24 b0 b1_0 b1_1 b1_2 k2=>
 let A1:=List.getD t22 t24.toNat Dop.d12
 ci (t24<t23) (ck (0<=t24/\t24<I t22.length)<|
 ck (0<=A1.at_/\A1.at_<I k2.mem.length)<|
 ck (A1.at_.toNat<k2.mem.length)<|
 ck (BD (t24+1))<|
 tK.1 t22 t23 (t24+1) b0 b1_0 b1_1 b1_2 ((ER.ZA k2 (k2.mem.set A1.at_.toNat A1.Q4))))<|
 (US.k b0 ([109,97,105,110]:List UInt8)).bind fun y3=>
 (m64.k y3.1.1 [] k2).bind fun y4=>
 ci (ER.end_ y4.2.1=0) ((NP.k 1 y4.1.1 y4.2.1).bind fun y6=>
 Ez (Dop.SO.mk (ER.end_ y6.2.1) (ER.code y6.2.1) (ER.out y6.2.1)))<|
 Ez (Dop.SO.mk (ER.end_ y4.2.1) (ER.code y4.2.1) (ER.out y4.2.1))
def Ho.kS (tK:Ho.KT):Ho.KT:=(LD.kB tK,())
def Ho.kL (n:Nat):Ho.KT:=C5 Ho.kS n
def Ho.k0 (tK:Ho.KT) (p:Dop.JM) (input:List Int) (fuel:Int):HH Dop.SO:=
 ck ((0:Int)<=4096/\(4096:Int)<=4096/\4096*(I (8:Nat)+1)<=140737488355328)<|
 tK.1 p.globals (I p.globals.length) 0 p 0 0 [] ((p,List.replicate (Int.toNat 4096) 0,p.top,input,[],if 1000000<if fuel<0 then 0 else fuel then 1000000 else if fuel<0 then 0 else fuel,0,0,(0:Int),(),()))
def Ho.k (p:Dop.JM) (input:List Int) (fuel:Int):HH Dop.SO:=Ho.k0 (Ho.kL 1000000) p input fuel
def Ho.Kc:=kd 7 Ho.p fun x=>Ho.k x.1.1 x.1.2.1 x.1.2.2.1
theorem Ho.Kh:Ho.Kc.Holds prog:=GB AH (hc US.Kh (hc m64.Ie (hc NP.Kh hn))) Ho.ok (fun t x=>Ho.k0 t x.1.1 x.1.2.1 x.1.2.2.1) (fun c=>(fun t22 t23 t24 b0 b1_0 b1_1 b1_2 k2=>c 3 Ho.q3 rfl (((),(),(),t22,t23,t24,()),((b0,()),(b1_0,b1_1,b1_2,()),k2,())),())) Ho.kS (by kernel_rfl)
def RQ.k (s:List UInt8) (input:List Int) (fuel:Int):MO Dop.SO Int:=
 (m18.k s).bind fun y2=>
 ci (!(y2.1.2.2.1=0)) (JE (Dop.SO.mk 0 0 []) y2.1.2.2.1)<|
 (Ho.k y2.1.1 input fuel).bind fun y4=>
 JE y4.1.1 0
def RQ.Kc:=kd 5 RQ.p fun x=>RQ.k x.1.1 x.1.2.1 x.1.2.2.1
theorem RQ.Kh:RQ.Kc.Holds prog:=kh AH (hc m18.Kh (hc Ho.Kh hn)) RQ.ok (by kernel_rfl)
def YE.k :HH Bool:=
 (RQ.k ([105,110,116,32,109,97,105,110,40,41,123,112,117,116,99,40,54,53,41,59,114,101,116,117,114,110,32,55,59,125]:List UInt8) [] 100).bind fun y2=>
 ci (y2.1.2.1=0) (ci (y2.1.1.end_=1) (ci (y2.1.1.code=7) (ci (I y2.1.1.output.length=1) (ck ((0:Int)<=0/\0<I y2.1.1.output.length)<|
 Ez (decide (List.getD y2.1.1.output (Int.toNat 0) (0:Int)=65)))<|
 Ez false)<|
 Ez false)<|
 Ez false)<|
 Ez false
def YE.Kc:=kd 4 YE.p fun x=>YE.k
theorem YE.Kh:YE.Kc.Holds prog:=kh AH (hc RQ.Kh hn) YE.ok (by kernel_rfl)
end
end Go.Proofs.Tryz
