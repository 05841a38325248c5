/- EvalRows: an operation's strength, as the law reckons it. -/
import Derived.Test.YtpjlciengdhjoaaGreatDoorMu
import Derived.Test.YtpjlciengdhjoaaGreatDoorRzA
import Derived.Test.YtpjlciengdhjoaaGreatDoorTwE
set_option maxRecDepth 1000000
set_option maxHeartbeats 4000000
namespace Go.Proofs
open Go Go.En Tryz
def Tryz.Gb.p:Aj:=⟨[],0,⟨[.fd .str],[]⟩,⟨[.fd (.int .i64)],[]⟩,true,[],[]⟩
theorem Tryz.Gb.ok:AH En.Dop.D4 Tryz.prog 21 Tryz.Gb.p=true:=by kernel_rfl
def Tryz.Gb.k (o:List UInt8):C9 Int:=
 ci (([124,124]:List UInt8)=o) (Aw 1)<|
 ci (([38,38]:List UInt8)=o) (Aw 2)<|
 ci (([124]:List UInt8)=o) (Aw 3)<|
 ci (([94]:List UInt8)=o) (Aw 4)<|
 ci (([38]:List UInt8)=o) (Aw 5)<|
 ci (([61,61]:List UInt8)=o) (Aw 6)<|
 ci (([33,61]:List UInt8)=o) (Aw 6)<|
 ci (([60]:List UInt8)=o) (Aw 7)<|
 ci (([60,61]:List UInt8)=o) (Aw 7)<|
 ci (([62]:List UInt8)=o) (Aw 7)<|
 ci (([62,61]:List UInt8)=o) (Aw 7)<|
 ci (([60,60]:List UInt8)=o) (Aw 8)<|
 ci (([62,62]:List UInt8)=o) (Aw 8)<|
 ci (([43]:List UInt8)=o) (Aw 9)<|
 ci (([45]:List UInt8)=o) (Aw 9)<|
 ci (([42]:List UInt8)=o) (Aw 10)<|
 ci (([47]:List UInt8)=o) (Aw 10)<|
 ci (([37]:List UInt8)=o) (Aw 10)<|
 Aw 0
noncomputable def Tryz.Gb.Kc:=kd 21 Tryz.Gb.p fun x=>Tryz.Gb.k x.1.1
theorem Tryz.Gb.Kh:Tryz.Gb.Kc.Holds Tryz.prog:=kh Tryz.AJ hn Tryz.Gb.ok (by kernel_rfl)
noncomputable def Tryz.Gb.c:BU En.Dop.D4:=Tryz.Gb.Kc
theorem Tryz.Gb.holds:Tryz.Gb.c.Holds Tryz.prog:=Tryz.Gb.Kh
set_option maxRecDepth 100000
abbrev Tryz.B0.q3:Cut:=⟨[[0,0,0,0,0,1,0,1,1],[0,1,0,0,0,1,0,1,1],[0,1,0,0,1,0,1,1],[2,0,0,1,0,1,1],[1,0],[0,1,1,1]],[0,3,4],0,⟨[.fd (.sl 1),.fd (.int .i64),.fd (.int .i64)],[]⟩⟩
def Tryz.B0.p:Aj:=⟨[(3,Tryz.B0.q3)],0,⟨[.fd (.sl 1)],[]⟩,⟨[.fd (.int .i64)],[]⟩,true,[(5,⟨[(0,true),(1,true),(2,false),(3,false),(4,false),(5,true),(6,true),(7,false),(8,false),(9,false),(10,true)],[],[0,0,3,7,15,0,0,96,224,511,1023],false⟩)],[]⟩
noncomputable def Tryz.B0.E:Env En.Dop.D4:=AU Tryz.prog 13 Tryz.tb [Tryz.Gb.c] Tryz.B0.p
theorem Tryz.B0.ok:AH En.Dop.D4 Tryz.prog 13 Tryz.B0.p=true:=by kernel_rfl
noncomputable def Tryz.B0.c:BU En.Dop.D4:=⟨13,Tryz.B0.p.bn,Tryz.B0.p.sp,Tryz.B0.p.rs,Tryz.B0.p.flat,.opt (Tryz.B0.E.run 3000 Tryz.B0.p.sp)⟩
theorem Tryz.B0.holds:Tryz.B0.c.Holds Tryz.prog:=BP 3000 Tryz.AJ (AS Tryz.Gb.holds Am) Tryz.B0.ok
def Tryz.Bi.p:Aj:=⟨[],0,⟨[.fd (.int .i64)],[]⟩,⟨[.fd .str],[]⟩,true,[],[]⟩
theorem Tryz.Bi.ok:AH En.Dop.D4 Tryz.prog 12 Tryz.Bi.p=true:=by kernel_rfl
abbrev Tryz.g12.T:Type:=(((Int×Unit)×Unit)->Option ((List UInt8×Unit)×Unit))×Unit
noncomputable def Tryz.g12.ct (r:Tryz.g12.T):List (BU En.Dop.D4):=[⟨12,Tryz.Bi.p.bn,Tryz.Bi.p.sp,Tryz.Bi.p.rs,Tryz.Bi.p.flat,.opt (r.1)⟩]
noncomputable def Tryz.g12.step (r:Tryz.g12.T):Tryz.g12.T:=((AU (S:=En.Dop.D4) Tryz.prog 12 Tryz.tb (Tryz.g12.ct r++[]) Tryz.Bi.p).run 3000 Tryz.Bi.p.sp,())
noncomputable def Tryz.g12.R (n:Nat):Tryz.g12.T:=Nat.rec (motive:=fun _=>Tryz.g12.T) (fun _=>none,()) (fun _ r=>Tryz.g12.step r) n
noncomputable def Tryz.Bi.R (n:Nat):((Int×Unit)×Unit)->Option ((List UInt8×Unit)×Unit):=(Tryz.g12.R n).1
noncomputable def Tryz.Bi.c (n:Nat):BU En.Dop.D4:=⟨12,Tryz.Bi.p.bn,Tryz.Bi.p.sp,Tryz.Bi.p.rs,Tryz.Bi.p.flat,.opt (Tryz.Bi.R n)⟩
noncomputable def Tryz.g12.cs (n:Nat):List (BU En.Dop.D4):=[Tryz.Bi.c n]
theorem Tryz.g12.all: ∀ n,(Tryz.Bi.c n).Holds Tryz.prog/\True
 | 0=>⟨AR Tryz.AJ Tryz.Bi.ok,trivial⟩
 | n+1=>by
  obtain ⟨h0,_⟩:=Tryz.g12.all n
  have hh: ∀ c∈Tryz.g12.cs n,c.Holds Tryz.prog:=(AS h0 Am)
  exact ⟨Mx (BP 3000 Tryz.AJ (Ad hh Am) Tryz.Bi.ok) (by kernel_rfl),trivial⟩
abbrev Tryz.Ex.q3:Cut:=⟨[[0,0,0,0,0,1,0,1,1],[0,1,0,0,0,1,0,1,1],[0,1,0,0,1,0,1,1],[2,0,0,1,0,1,1],[1,0],[0,1,1,1]],[0,1,5,6],0,⟨[.fd (.sl 0),.fd (.sl 1),.fd .str,.fd (.int .i64)],[]⟩⟩
def Tryz.Ex.p:Aj:=⟨[(3,Tryz.Ex.q3)],0,⟨[.fd (.sl 0),.fd (.sl 1)],[]⟩,⟨[.fd .str],[]⟩,true,[(5,⟨[(0,true),(1,true),(2,true),(3,true),(4,false),(5,false),(6,true),(7,true),(8,true),(9,true),(10,true),(11,false),(12,false),(13,false),(14,true),(15,true)],[],[0,1,0,0,12,28,63,127,0,0,512,1792,3840,7936,16383,32767],false⟩)],[]⟩
theorem Tryz.Ex.ok:AH En.Dop.D4 Tryz.prog 7 Tryz.Ex.p=true:=by kernel_rfl
def Tryz.IA.p:Aj:=⟨[],0,⟨[],[]⟩,⟨[.mp (.str) 18 false],[]⟩,true,[],[]⟩
noncomputable def Tryz.IA.E:Env En.Dop.D4:=AU Tryz.prog 5 Tryz.tb [] Tryz.IA.p
theorem Tryz.IA.ok:AH En.Dop.D4 Tryz.prog 5 Tryz.IA.p=true:=by kernel_rfl
noncomputable def Tryz.IA.c:BU En.Dop.D4:=⟨5,Tryz.IA.p.bn,Tryz.IA.p.sp,Tryz.IA.p.rs,Tryz.IA.p.flat,.opt (Tryz.IA.E.run 3000 Tryz.IA.p.sp)⟩
theorem Tryz.IA.holds:Tryz.IA.c.Holds Tryz.prog:=BP 3000 Tryz.AJ Am Tryz.IA.ok
def Tryz.El.p:Aj:=⟨[],0,⟨[.fd (.sl 0),.fd (.sl 1)],[]⟩,⟨[.fd (.int .i64),.fd .bool],[]⟩,true,[(4,⟨[(0,true),(1,true),(2,true),(3,true),(4,true),(5,true),(6,true),(7,false),(8,true),(9,true),(10,true),(11,true),(12,true)],[],[0,0,2,7,0,0,48,127,255,511,511,1023,4095],false⟩),(7,⟨[(0,true),(1,true),(2,true),(3,true),(4,true),(5,true),(6,true),(7,true),(8,false),(9,true),(10,true),(11,true),(12,true),(13,true)],[],[0,0,2,7,0,0,32,112,255,511,1023,1023,2047,8191],false⟩),(15,⟨[(0,false),(1,true),(2,true),(3,false),(4,false),(5,false),(6,true),(7,true),(8,false),(9,true),(10,true),(11,true),(12,true)],[],[0,0,0,6,14,31,0,0,255,511,511,2047,4095],false⟩)],[]⟩
theorem Tryz.El.ok:AH En.Dop.D4 Tryz.prog 8 Tryz.El.p=true:=by kernel_rfl
abbrev Tryz.g8.T:Type:=(((List (Int)×List (List UInt8)×Unit)×Unit)->Option ((Int×Bool×Unit)×Unit))×Unit
noncomputable def Tryz.g8.ct (r:Tryz.g8.T):List (BU En.Dop.D4):=[⟨8,Tryz.El.p.bn,Tryz.El.p.sp,Tryz.El.p.rs,Tryz.El.p.flat,.opt (r.1)⟩]
noncomputable def Tryz.g8.step (r:Tryz.g8.T):Tryz.g8.T:=((AU (S:=En.Dop.D4) Tryz.prog 8 Tryz.tb (Tryz.g8.ct r++[Tryz.B0.c,Tryz.BV.c,Tryz.IA.c]) Tryz.El.p).run 3000 Tryz.El.p.sp,())
noncomputable def Tryz.g8.R (n:Nat):Tryz.g8.T:=Nat.rec (motive:=fun _=>Tryz.g8.T) (fun _=>none,()) (fun _ r=>Tryz.g8.step r) n
noncomputable def Tryz.El.R (n:Nat):((List (Int)×List (List UInt8)×Unit)×Unit)->Option ((Int×Bool×Unit)×Unit):=(Tryz.g8.R n).1
noncomputable def Tryz.El.c (n:Nat):BU En.Dop.D4:=⟨8,Tryz.El.p.bn,Tryz.El.p.sp,Tryz.El.p.rs,Tryz.El.p.flat,.opt (Tryz.El.R n)⟩
noncomputable def Tryz.g8.cs (n:Nat):List (BU En.Dop.D4):=[Tryz.El.c n]
theorem Tryz.g8.all: ∀ n,(Tryz.El.c n).Holds Tryz.prog/\True
 | 0=>⟨AR Tryz.AJ Tryz.El.ok,trivial⟩
 | n+1=>by
  obtain ⟨h0,_⟩:=Tryz.g8.all n
  have hh: ∀ c∈Tryz.g8.cs n,c.Holds Tryz.prog:=(AS h0 Am)
  exact ⟨Mx (BP 3000 Tryz.AJ (Ad hh (AS Tryz.B0.holds (AS Tryz.BV.holds (AS Tryz.IA.holds Am)))) Tryz.El.ok) (by kernel_rfl),trivial⟩
abbrev Tryz.ET.q4:Cut:=⟨[[0,0,0,0,1,0,1,1],[0,1,0,0,1,0,1,1],[2,0,0,1,0,1,1],[1,0],[0,1,1,1]],[0,1,27,28,29],0,⟨[.fd (.sl 0),.fd (.sl 1),.fd (.sl 1),.fd (.int .i64),.fd (.int .i64)],[]⟩⟩
abbrev Tryz.ET.dP:Cut:=⟨[[0,0,1,1,1,1,1,1,1,1],[0,1,1,1,1,1,1,1,1,1]],[10,11,14],2,⟨[.al 0 0,.fd (.int .i64),.al 1 0],[⟨0,31,[.st 19],false⟩,⟨1,31,[.fd (.int .i64),.fd (.int .i64),.own 3 5],false⟩]⟩⟩
def Tryz.ET.p:Aj:=⟨[(4,Tryz.ET.q4),(18,Tryz.ET.dP)],0,⟨[.fd (.sl 0),.fd (.sl 1)],[]⟩,⟨[.fd .bool],[]⟩,true,[],[]⟩
theorem Tryz.ET.ok:AH En.Dop.D4 Tryz.prog 3 Tryz.ET.p=true:=by kernel_rfl
noncomputable section
def Tryz.DB.k (n:Int):C9 Int:=
 let A2:=n.tmod (4294967296:Int)+4294967296
 let A1:=n.tmod (4294967296:Int) -4294967296
 ck ((4294967296:Int)≠0)<|
 ci (2147483648<=n.tmod 4294967296) (ck (Al A1)<|
 Aw A1)<|
 ci (n.tmod 4294967296<(-2147483648)) (ck (Al A2)<|
 Aw A2)<|
 Aw (n.tmod 4294967296)
def Tryz.DB.Kc:=kd 22 Tryz.DB.p fun x=>Tryz.DB.k x.1.1
theorem Tryz.DB.Kh:Tryz.DB.Kc.Holds Tryz.prog:=kh Tryz.AJ hn Tryz.DB.ok (by kernel_rfl)
def Tryz.CU.k (n:Int):C9 Int:=
 (Tryz.DB.k n).bind fun y1=>
 ci (y1.1.1<0) (ck (Al (y1.1.1+4294967296))<|
 Aw (y1.1.1+4294967296))<|
 Aw y1.1.1
def Tryz.CU.Kc:=kd 24 Tryz.CU.p fun x=>Tryz.CU.k x.1.1
theorem Tryz.CU.Kh:Tryz.CU.Kc.Holds Tryz.prog:=kh Tryz.AJ (hc Tryz.DB.Kh hn) Tryz.CU.ok (by kernel_rfl)
abbrev Tryz.HJ.T:Type:=Int->Int->Int->C9 Int
abbrev Tryz.Bu.KT:Type:=Tryz.HJ.T×Unit
def Tryz.HJ.kB (tK:Tryz.Bu.KT):Tryz.HJ.T:=fun k p i=>
 ci (i<k) (ck ((2:Int)≠0/\Al (p.tdiv 2)=true)<|
 ck (Al (i+1))<|
 tK.1 k (p.tdiv 2) (i+1))<|
 ck ((2:Int)≠0)<|
 Aw (p.tmod 2)
def Tryz.Bu.kS (tK:Tryz.Bu.KT):Tryz.Bu.KT:=(Tryz.HJ.kB tK,())
def Tryz.Bu.kL (n:Nat):Tryz.Bu.KT:=Bd Tryz.Bu.kS n
def Tryz.Bu.k0 (tK:Tryz.Bu.KT) (n k:Int):C9 Int:=
 (Tryz.CU.k n).bind fun y1=>
 tK.1 k y1.1.1 0
def Tryz.Bu.k (n k:Int):C9 Int:=Tryz.Bu.k0 (Tryz.Bu.kL 1000000) n k
def Tryz.Bu.Kc:=kd 41 Tryz.Bu.p fun x=>Tryz.Bu.k x.1.1 x.1.2.1
theorem Tryz.Bu.Kh:Tryz.Bu.Kc.Holds Tryz.prog:=GB Tryz.AJ (hc Tryz.CU.Kh hn) Tryz.Bu.ok (fun t x=>Tryz.Bu.k0 t x.1.1 x.1.2.1) (fun c=>(fun k p i=>c 3 Tryz.Bu.q3 rfl ((k,p,i,()),()),())) Tryz.Bu.kS (by kernel_rfl)
abbrev Tryz.HI.T:Type:=Int->Int->Int->C9 Int
abbrev Tryz.Bk.KT:Type:=Tryz.HI.T×Unit
def Tryz.HI.kB (tK:Tryz.Bk.KT):Tryz.HI.T:=fun k p i=>
 ci (i<k) (ck (Al (p*2))<|
 ck (Al (i+1))<|
 tK.1 k (p*2) (i+1))<|
 Aw p
def Tryz.Bk.kS (tK:Tryz.Bk.KT):Tryz.Bk.KT:=(Tryz.HI.kB tK,())
def Tryz.Bk.kL (n:Nat):Tryz.Bk.KT:=Bd Tryz.Bk.kS n
def Tryz.Bk.k0 (tK:Tryz.Bk.KT) (k:Int):C9 Int:=
 tK.1 k 1 0
def Tryz.Bk.k (k:Int):C9 Int:=Tryz.Bk.k0 (Tryz.Bk.kL 1000000) k
def Tryz.Bk.Kc:=kd 23 Tryz.Bk.p fun x=>Tryz.Bk.k x.1.1
theorem Tryz.Bk.Kh:Tryz.Bk.Kc.Holds Tryz.prog:=GB Tryz.AJ hn Tryz.Bk.ok (fun t x=>Tryz.Bk.k0 t x.1.1) (fun c=>(fun k p i=>c 3 Tryz.Bk.q3 rfl ((k,p,i,()),()),())) Tryz.Bk.kS (by kernel_rfl)
abbrev Tryz.GF.T:Type:=Int->Int->Int->Int->Int->C9 Int
abbrev Tryz.Bl.KT:Type:=Tryz.GF.T×Unit
def Tryz.GF.kB (tK:Tryz.Bl.KT):Tryz.GF.T:=fun a b kind n k=>
 let z1:C9 Int:=
 ci (kind=2) ((Tryz.Bk.k k).bind fun y1=>
 ck (Al (n+y1.1.1))<|
 ck (Al (k+1))<|
 tK.1 a b kind (n+y1.1.1) (k+1))<|
 ck (Al (k+1))<|
 tK.1 a b kind n (k+1)
 let z2:C9 Int:=
 (Tryz.Bk.k k).bind fun y1=>
 ck (Al (n+y1.1.1))<|
 ck (Al (k+1))<|
 tK.1 a b kind (n+y1.1.1) (k+1)
 ci (k<32) ((Tryz.Bu.k a k).bind fun y3=>
 (Tryz.Bu.k b k).bind fun y2=>
 let z3:C9 Int:=
 let z4:C9 Int:=
 ck (Al (y3.1.1+y2.1.1))<|
 ci (y3.1.1+y2.1.1=1) (z1)<|
 ck (Al (k+1))<|
 tK.1 a b kind n (k+1)
 ck (Al (y3.1.1+y2.1.1))<|
 ci (0<y3.1.1+y2.1.1) (ci (kind=1) (z2)<|
 z4)<|
 z4
 ck (Al (y3.1.1*y2.1.1))<|
 ci (y3.1.1*y2.1.1=1) (ci (kind=0) (z2)<|
 z3)<|
 z3)<|
 Aw n
def Tryz.Bl.kS (tK:Tryz.Bl.KT):Tryz.Bl.KT:=(Tryz.GF.kB tK,())
def Tryz.Bl.kL (n:Nat):Tryz.Bl.KT:=Bd Tryz.Bl.kS n
def Tryz.Bl.k0 (tK:Tryz.Bl.KT) (a b kind:Int):C9 Int:=
 tK.1 a b kind 0 0
def Tryz.Bl.k (a b kind:Int):C9 Int:=Tryz.Bl.k0 (Tryz.Bl.kL 1000000) a b kind
def Tryz.Bl.Kc:=kd 25 Tryz.Bl.p fun x=>Tryz.Bl.k x.1.1 x.1.2.1 x.1.2.2.1
theorem Tryz.Bl.Kh:Tryz.Bl.Kc.Holds Tryz.prog:=GB Tryz.AJ (hc Tryz.Bu.Kh (hc Tryz.Bk.Kh hn)) Tryz.Bl.ok (fun t x=>Tryz.Bl.k0 t x.1.1 x.1.2.1 x.1.2.2.1) (fun c=>(fun a b kind n k=>c 3 Tryz.Bl.q3 rfl ((a,b,kind,n,k,()),()),())) Tryz.Bl.kS (by kernel_rfl)
def Tryz.D7.k (a by_:Int):C9 Int:=
 ck (by_≠0/\Al (a.tdiv by_)=true)<|
 ci (a<0) (ck (Al (a.tdiv by_*by_))<|
 ci (!(a.tdiv by_*by_=a)) (ck (Al (a.tdiv by_ -1))<|
 Aw (a.tdiv by_ -1))<|
 Aw (a.tdiv by_))<|
 Aw (a.tdiv by_)
def Tryz.D7.Kc:=kd 26 Tryz.D7.p fun x=>Tryz.D7.k x.1.1 x.1.2.1
theorem Tryz.D7.Kh:Tryz.D7.Kc.Holds Tryz.prog:=kh Tryz.AJ hn Tryz.D7.ok (by kernel_rfl)
def Tryz.DD.k (is:Bool):C9 Int:=
 ci is (Aw 1)<|
 Aw 0
def Tryz.DD.Kc:=kd 27 Tryz.DD.p fun x=>Tryz.DD.k x.1.1
theorem Tryz.DD.Kh:Tryz.DD.Kc.Holds Tryz.prog:=kh Tryz.AJ hn Tryz.DD.ok (by kernel_rfl)
abbrev Tryz.HE.T:Type:=Int->Hj Int Bool
abbrev Tryz.BV.KT:Type:=Tryz.HE.T×Unit
def Tryz.HE.kB (tK:Tryz.BV.KT):Tryz.HE.T:=fun t11=>
 (Tryz.DB.k t11).bind fun y1=>
 D8 y1.1.1 true
def Tryz.BV.kS (tK:Tryz.BV.KT):Tryz.BV.KT:=(Tryz.HE.kB tK,())
def Tryz.BV.kL (n:Nat):Tryz.BV.KT:=Bd Tryz.BV.kS n
def Tryz.BV.k0 (tK:Tryz.BV.KT) (o t1 t2:Int):Hj Int Bool:=
 (Tryz.DB.k t1).bind fun y8=>
 let z1:Hj Int Bool:=
 ci (o=20) (ck (Al (0 -y8.1.1))<|
 tK.1 (0 -y8.1.1))<|
 ci (o=21) (ck (Al (0 -y8.1.1))<|
 ck (Al (0 -y8.1.1 -1))<|
 tK.1 (0 -y8.1.1 -1))<|
 ci (o=22) ((Tryz.CU.k y8.1.1).bind fun y1=>
 ck ((256:Int)≠0)<|
 tK.1 (y1.1.1.tmod 256))<|
 (Tryz.DD.k (decide (y8.1.1=0))).bind fun y1=>
 tK.1 y1.1.1
 (Tryz.DB.k t2).bind fun y7=>
 let z2:Hj Int Bool:=
 ci (o=14) ((Tryz.DD.k (decide (y8.1.1=y7.1.1))).bind fun y1=>
 tK.1 y1.1.1)<|
 ci (o=15) ((Tryz.DD.k (!decide (y8.1.1=y7.1.1))).bind fun y1=>
 tK.1 y1.1.1)<|
 ci (o=16) ((Tryz.DD.k (decide (y8.1.1<y7.1.1))).bind fun y1=>
 tK.1 y1.1.1)<|
 ci (o=17) (ci (y8.1.1<y7.1.1) ((Tryz.DD.k true).bind fun y1=>
 tK.1 y1.1.1)<|
 (Tryz.DD.k (decide (y8.1.1=y7.1.1))).bind fun y1=>
 tK.1 y1.1.1)<|
 ci (o=18) ((Tryz.CU.k y8.1.1).bind fun y3=>
 (Tryz.CU.k y7.1.1).bind fun y2=>
 (Tryz.DD.k (decide (y3.1.1<y2.1.1))).bind fun y1=>
 tK.1 y1.1.1)<|
 ci (o=19) ((Tryz.CU.k y8.1.1).bind fun y3=>
 (Tryz.CU.k y7.1.1).bind fun y2=>
 (Tryz.DD.k (decide (y3.1.1<=y2.1.1))).bind fun y1=>
 tK.1 y1.1.1)<|
 z1
 let z3:Hj Int Bool:=
 (Tryz.CU.k y8.1.1).bind fun y4=>
 (Tryz.CU.k y8.1.1).bind fun y3=>
 (Tryz.CU.k y7.1.1).bind fun y2=>
 ck (y2.1.1≠0/\Al (y3.1.1.tdiv y2.1.1)=true)<|
 (Tryz.CU.k y7.1.1).bind fun y1=>
 ck (Al (y3.1.1.tdiv y2.1.1*y1.1.1))<|
 ck (Al (y4.1.1 -y3.1.1.tdiv y2.1.1*y1.1.1))<|
 tK.1 (y4.1.1 -y3.1.1.tdiv y2.1.1*y1.1.1)
 let z4:Hj Int Bool:=
 ck (y7.1.1≠0/\Al (y8.1.1.tdiv y7.1.1)=true)<|
 ck (Al (y8.1.1.tdiv y7.1.1*y7.1.1))<|
 ck (Al (y8.1.1 -y8.1.1.tdiv y7.1.1*y7.1.1))<|
 tK.1 (y8.1.1 -y8.1.1.tdiv y7.1.1*y7.1.1)
 let z5:Hj Int Bool:=
 (Tryz.CU.k y8.1.1).bind fun y2=>
 (Tryz.CU.k y7.1.1).bind fun y1=>
 ck (y1.1.1≠0/\Al (y2.1.1.tdiv y1.1.1)=true)<|
 tK.1 (y2.1.1.tdiv y1.1.1)
 (Tryz.CU.k y7.1.1).bind fun y6=>
 ck ((32:Int)≠0)<|
 (Tryz.Bk.k (y6.1.1.tmod 32)).bind fun y5=>
 let z6:Hj Int Bool:=
 let z7:Hj Int Bool:=
 ci (o=11) (ck (Al (y8.1.1*y5.1.1))<|
 tK.1 (y8.1.1*y5.1.1))<|
 ci (o=12) ((Tryz.D7.k y8.1.1 y5.1.1).bind fun y1=>
 tK.1 y1.1.1)<|
 ci (o=13) ((Tryz.CU.k y8.1.1).bind fun y1=>
 ck (y5.1.1≠0/\Al (y1.1.1.tdiv y5.1.1)=true)<|
 tK.1 (y1.1.1.tdiv y5.1.1))<|
 z2
 ci (o=1) (ck (Al (y8.1.1+y7.1.1))<|
 tK.1 (y8.1.1+y7.1.1))<|
 ci (o=2) (ck (Al (y8.1.1 -y7.1.1))<|
 tK.1 (y8.1.1 -y7.1.1))<|
 ci (o=3) (ck (Al (y8.1.1*y7.1.1))<|
 tK.1 (y8.1.1*y7.1.1))<|
 ci (o=4) (ck (y7.1.1≠0/\Al (y8.1.1.tdiv y7.1.1)=true)<|
 tK.1 (y8.1.1.tdiv y7.1.1))<|
 ci (o=5) (z4)<|
 ci (o=6) (z5)<|
 ci (o=7) (z3)<|
 ci (8<=o) (ci (o<=10) (ck (Al (o -8))<|
 (Tryz.Bl.k y8.1.1 y7.1.1 (o -8)).bind fun y1=>
 tK.1 y1.1.1)<|
 z7)<|
 z7
 ci (o<1) (D8 0 false)<|
 ci (23<o) (D8 0 false)<|
 ci (y7.1.1=0) (ci (4<=o) (ci (o<=7) (D8 0 false)<|
 z6)<|
 z6)<|
 z6
def Tryz.BV.k (o t1 t2:Int):Hj Int Bool:=Tryz.BV.k0 (Tryz.BV.kL 1000000) o t1 t2
def Tryz.BV.Kc:=kd 14 Tryz.BV.p fun x=>Tryz.BV.k x.1.1 x.1.2.1 x.1.2.2.1
theorem Tryz.BV.Kh:Tryz.BV.Kc.Holds Tryz.prog:=GB Tryz.AJ (hc Tryz.DB.Kh (hc Tryz.CU.Kh (hc Tryz.Bk.Kh (hc Tryz.Bl.Kh (hc Tryz.D7.Kh (hc Tryz.DD.Kh hn)))))) Tryz.BV.ok (fun t x=>Tryz.BV.k0 t x.1.1 x.1.2.1 x.1.2.2.1) (fun c=>(fun t11=>c 48 Tryz.BV.pH rfl ((t11,()),()),())) Tryz.BV.kS (by kernel_rfl)
abbrev Tryz.HD.T:Type:=(List (List UInt8))->Int->Int->C9 Int
abbrev Tryz.B0.KT:Type:=Tryz.HD.T×Unit
def Tryz.HD.kB (tK:Tryz.B0.KT):Tryz.HD.T:=fun ops at_ i=>
 ci (i<I ops.length) (ck (0<=i/\i<I ops.length)<|
 (Tryz.Gb.k (List.getD ops i.toNat [])).bind fun y2=>
 ck (0<=at_/\at_<I ops.length)<|
 (Tryz.Gb.k (List.getD ops at_.toNat [])).bind fun y1=>
 ci (y2.1.1<=y1.1.1) (ck (Al (i+1))<|
 tK.1 ops i (i+1))<|
 ck (Al (i+1))<|
 tK.1 ops at_ (i+1))<|
 Aw at_
def Tryz.B0.kS (tK:Tryz.B0.KT):Tryz.B0.KT:=(Tryz.HD.kB tK,())
def Tryz.B0.kL (n:Nat):Tryz.B0.KT:=Bd Tryz.B0.kS n
def Tryz.B0.k0 (tK:Tryz.B0.KT) (ops:List (List UInt8)):C9 Int:=
 tK.1 ops 0 1
def Tryz.B0.k (ops:List (List UInt8)):C9 Int:=Tryz.B0.k0 (Tryz.B0.kL 1000000) ops
def Tryz.B0.Kc:=kd 13 Tryz.B0.p fun x=>Tryz.B0.k x.1.1
theorem Tryz.B0.Kh:Tryz.B0.Kc.Holds Tryz.prog:=GB Tryz.AJ (hc Tryz.Gb.Kh hn) Tryz.B0.ok (fun t x=>Tryz.B0.k0 t x.1.1) (fun c=>(fun ops at_ i=>c 3 Tryz.B0.q3 rfl ((ops,at_,i,()),()),())) Tryz.B0.kS (by kernel_rfl)
abbrev Tryz.Bi.kr (r:Tryz.g12.T) (n:Int):C9 (List UInt8):=r.1 ((n,()),())
def Tryz.Bi.kf (rK:Tryz.g12.T) (n:Int):C9 (List UInt8):=
 ci (n<10) (ck (Al (48+n))<|
 Aw (List.map (fun (x:Int)=>(eK Dop.D4 3 x).toNat.toUInt8) (IntKind.u8.wrap (48+n)::[])))<|
 ck ((10:Int)≠0/\Al (n.tdiv 10)=true)<|
 (Tryz.Bi.kr rK (n.tdiv 10)).bind fun y2=>
 ck ((10:Int)≠0)<|
 (Tryz.Bi.kr rK (n.tmod 10)).bind fun y1=>
 ck (y2.1.1.length+y1.1.1.length<=9223372036854775807)<|
 Aw (y2.1.1++y1.1.1)
def Tryz.g12.kS (r:Tryz.g12.T):Tryz.g12.T:=(fun x=>Tryz.Bi.kf r x.1.1,())
def Tryz.g12.kR (n:Nat):Tryz.g12.T:=Bd Tryz.g12.kS n
def Tryz.Bi.Kc (n:Nat):=kd 12 Tryz.Bi.p (Tryz.g12.kR n).1
def Tryz.Bi.JE:=Tryz.Bi.Kc FU
def Tryz.Bi.k:=Tryz.Bi.kr (Tryz.g12.kR FU)
def Tryz.g12.PY (n:Nat):List (BU En.Dop.D4):=[Tryz.Bi.Kc n]
theorem Tryz.g12.Dx: ∀ n,(Tryz.Bi.Kc n).Holds Tryz.prog/\True
 | 0=>⟨AR Tryz.AJ Tryz.Bi.ok,trivial⟩
 | n+1=>by
  obtain ⟨h0,_⟩:=Tryz.g12.Dx n
  have hh: ∀ c∈Tryz.g12.PY n,c.Holds Tryz.prog:=(hc h0 hn)
  exact ⟨kh Tryz.AJ (Ad hh hn) Tryz.Bi.ok (by kernel_rfl),
   trivial⟩
theorem Tryz.Bi.Hi:Tryz.Bi.JE.Holds Tryz.prog:=(Tryz.g12.Dx FU).1
abbrev Tryz.KM.T:Type:=List Int->(List (List UInt8))->List UInt8->Int->C9 (List UInt8)
abbrev Tryz.Ex.KT:Type:=Tryz.KM.T×Unit
def Tryz.KM.kB (tK:Tryz.Ex.KT):Tryz.KM.T:=fun BS ops s i=>
 ci (i<I ops.length) (ck (s.length+([32]:List UInt8).length<=9223372036854775807)<|
 ck (0<=i/\i<I ops.length)<|
 ck ((s++(32:UInt8)::[]).length+(List.getD ops i.toNat []).length<=9223372036854775807)<|
 ck ((s++(32:UInt8)::[]++List.getD ops i.toNat []).length+([32]:List UInt8).length<=9223372036854775807)<|
 ck (Al (i+1))<|
 ck (0<=i+1/\i+1<I BS.length)<|
 (Tryz.Bi.k (List.getD BS (i+1).toNat 0)).bind fun y1=>
 ck ((s++(32:UInt8)::[]++List.getD ops i.toNat []++(32:UInt8)::[]).length+y1.1.1.length<=9223372036854775807)<|
 ck (Al (i+1))<|
 tK.1 BS ops (s++(32:UInt8)::[]++List.getD ops i.toNat []++(32:UInt8)::[]++y1.1.1) (i+1))<|
 Aw s
def Tryz.Ex.kS (tK:Tryz.Ex.KT):Tryz.Ex.KT:=(Tryz.KM.kB tK,())
def Tryz.Ex.kL (n:Nat):Tryz.Ex.KT:=Bd Tryz.Ex.kS n
def Tryz.Ex.k0 (tK:Tryz.Ex.KT) (BS:List Int) (ops:List (List UInt8)):C9 (List UInt8):=
 ck ((0:Int)<=0/\0<I BS.length)<|
 (Tryz.Bi.k (List.getD BS (Int.toNat 0) 0)).bind fun y1=>
 tK.1 BS ops y1.1.1 0
def Tryz.Ex.k (BS:List Int) (ops:List (List UInt8)):C9 (List UInt8):=Tryz.Ex.k0 (Tryz.Ex.kL 1000000) BS ops
def Tryz.Ex.Kc:=kd 7 Tryz.Ex.p fun x=>Tryz.Ex.k x.1.1 x.1.2.1
theorem Tryz.Ex.Kh:Tryz.Ex.Kc.Holds Tryz.prog:=GB Tryz.AJ (hc Tryz.Bi.Hi hn) Tryz.Ex.ok (fun t x=>Tryz.Ex.k0 t x.1.1 x.1.2.1) (fun c=>(fun BS ops s i=>c 3 Tryz.Ex.q3 rfl ((BS,ops,s,i,()),()),())) Tryz.Ex.kS (by kernel_rfl)
def Tryz.IA.k :C9 (List (List UInt8×Int)):=
 Aw (Bc (Bc (Bc (Bc (Bc (Bc (Bc (Bc (Bc (Bc (Bc (Bc (Bc (Bc (([]:List (List UInt8×Int))) ([124]:List UInt8) 9) ([94]:List UInt8) 10) ([38]:List UInt8) 8) ([61,61]:List UInt8) 14) ([33,61]:List UInt8) 15) ([60]:List UInt8) 16) ([60,61]:List UInt8) 17) ([60,60]:List UInt8) 11) ([62,62]:List UInt8) 12) ([43]:List UInt8) 1) ([45]:List UInt8) 2) ([42]:List UInt8) 3) ([47]:List UInt8) 4) ([37]:List UInt8) 5)
def Tryz.IA.Kc:=kd 5 Tryz.IA.p fun x=>Tryz.IA.k
theorem Tryz.IA.Kh:Tryz.IA.Kc.Holds Tryz.prog:=kh Tryz.AJ hn Tryz.IA.ok (by kernel_rfl)
abbrev Tryz.El.kr (r:Tryz.g8.T) (o:List Int) (t1:List (List UInt8)):Hj Int Bool:=r.1 ((o,t1,()),())
def Tryz.El.kf (rK:Tryz.g8.T) (o:List Int) (t1:List (List UInt8)):Hj Int Bool:=
 ci (I t1.length=0) (ck ((0:Int)<=0/\0<I o.length)<|
 D8 (List.getD o (Int.toNat 0) 0) true)<|
 (Tryz.B0.k t1).bind fun y5=>
 ck (Al (y5.1.1+1))<|
 ck ((0:Int)<=0/\0<=y5.1.1+1/\y5.1.1+1<=I o.length)<|
 ck ((0:Int)<=0/\0<=y5.1.1/\y5.1.1<=I t1.length)<|
 (Tryz.El.kr rK (List.drop (Int.toNat 0) (List.take (y5.1.1+1).toNat o)) (List.drop (Int.toNat 0) (List.take y5.1.1.toNat t1))).bind fun y4=>
 ci (!y4.1.2.1) (D8 0 false)<|
 ck (Al (y5.1.1+1))<|
 ck (0<=y5.1.1+1/\y5.1.1+1<=I o.length/\I o.length<=I o.length)<|
 ck (Al (y5.1.1+1))<|
 ck (0<=y5.1.1+1/\y5.1.1+1<=I t1.length/\I t1.length<=I t1.length)<|
 (Tryz.El.kr rK (List.drop (y5.1.1+1).toNat (List.take (I o.length).toNat o)) (List.drop (y5.1.1+1).toNat (List.take (I t1.length).toNat t1))).bind fun y3=>
 ci (!y3.1.2.1) (D8 0 false)<|
 ck (0<=y5.1.1/\y5.1.1<I t1.length)<|
 ci (List.getD t1 y5.1.1.toNat []=(62:UInt8)::[]) ((Tryz.BV.k 16 y3.1.1 y4.1.1).bind Iy)<|
 ci (List.getD t1 y5.1.1.toNat []=(62:UInt8)::(61:UInt8)::[]) ((Tryz.BV.k 17 y3.1.1 y4.1.1).bind Iy)<|
 (Tryz.IA.k).bind fun y2=>
 ck (0<=y5.1.1/\y5.1.1<I t1.length)<|
 (Tryz.BV.k ((AT y2.1.1 (List.getD t1 y5.1.1.toNat [])).getD 0) y4.1.1 y3.1.1).bind Iy
def Tryz.g8.kS (r:Tryz.g8.T):Tryz.g8.T:=(fun x=>Tryz.El.kf r x.1.1 x.1.2.1,())
def Tryz.g8.kR (n:Nat):Tryz.g8.T:=Bd Tryz.g8.kS n
def Tryz.El.Kc (n:Nat):=kd 8 Tryz.El.p (Tryz.g8.kR n).1
def Tryz.El.JE:=Tryz.El.Kc FU
def Tryz.El.k:=Tryz.El.kr (Tryz.g8.kR FU)
def Tryz.g8.PY (n:Nat):List (BU En.Dop.D4):=[Tryz.El.Kc n]
theorem Tryz.g8.Dx: ∀ n,(Tryz.El.Kc n).Holds Tryz.prog/\True
 | 0=>⟨AR Tryz.AJ Tryz.El.ok,trivial⟩
 | n+1=>by
  obtain ⟨h0,_⟩:=Tryz.g8.Dx n
  have hh: ∀ c∈Tryz.g8.PY n,c.Holds Tryz.prog:=(hc h0 hn)
  exact ⟨kh Tryz.AJ (Ad hh (hc Tryz.B0.Kh (hc Tryz.BV.Kh (hc Tryz.IA.Kh hn)))) Tryz.El.ok (by kernel_rfl),
   trivial⟩
theorem Tryz.El.Hi:Tryz.El.JE.Holds Tryz.prog:=(Tryz.g8.Dx FU).1
abbrev Tryz.H9.T:Type:=List Int->(List (List UInt8))->(List (List UInt8))->Int->Int->C9 Bool
abbrev Tryz.JZ.T:Type:=Int->Dop.UO->Int->Int->List Int->C9 Bool
abbrev Tryz.ET.KT:Type:=Tryz.H9.T×Tryz.JZ.T×Unit
def Tryz.H9.kB (tK:Tryz.ET.KT):Tryz.H9.T:=fun o t1 t27 t28 t29=>
 let z1:C9 Bool:=
 ck (0<=t29/\t29<I o.length)<|
 ci (List.getD o t29.toNat (0:Int)<0) (Aw true)<|
 ck (0<=t29/\t29<I o.length)<|
 ci (1000000<List.getD o t29.toNat 0) (Aw true)<|
 ck (Al (t29+1))<|
 tK.1 o t1 t27 t28 (t29+1)
 ci (t29<t28) (ck (0<=t29/\t29<I t27.length)<|
 (Tryz.IA.k).bind fun y1=>
 ci (!(AT y1.1.1 (List.getD t27 t29.toNat [])).isSome) (ci (!(List.getD t27 t29.toNat []=(62:UInt8)::[])) (ci (!(List.getD t27 t29.toNat []=(62:UInt8)::(61:UInt8)::[])) (Aw true)<|
 z1)<|
 z1)<|
 z1)<|
 ck (0<=I t1.length/\I t1.length<I o.length)<|
 ci (List.getD o (I t1.length).toNat (0:Int)<0) (Aw true)<|
 ci (1000000<List.getD o (I t1.length).toNat 0) (Aw true)<|
 (Tryz.Ex.k o t1).bind fun y3=>
 ck (([105,110,116,32,109,97,105,110,40,41,123,114,101,116,117,114,110,32]:List UInt8).length+y3.1.1.length<=9223372036854775807)<|
 ck (((105:UInt8)::(110:UInt8)::(116:UInt8)::(32:UInt8)::(109:UInt8)::(97:UInt8)::(105:UInt8)::(110:UInt8)::(40:UInt8)::(41:UInt8)::(123:UInt8)::(114:UInt8)::(101:UInt8)::(116:UInt8)::(117:UInt8)::(114:UInt8)::(110:UInt8)::(32:UInt8)::[]++y3.1.1).length+([59,125]:List UInt8).length<=9223372036854775807)<|
 (Tryz.Rm.k ((105:UInt8)::(110:UInt8)::(116:UInt8)::(32:UInt8)::(109:UInt8)::(97:UInt8)::(105:UInt8)::(110:UInt8)::(40:UInt8)::(41:UInt8)::(123:UInt8)::(114:UInt8)::(101:UInt8)::(116:UInt8)::(117:UInt8)::(114:UInt8)::(110:UInt8)::(32:UInt8)::[]++y3.1.1++(59:UInt8)::(125:UInt8)::[]) [] 1000).bind fun y2=>
 (Tryz.El.k o t1).bind fun y1=>
 ci (!y1.1.2.1) (tK.2.1 y2.1.2.1 y2.1.1 2 2 [])<|
 tK.2.1 y2.1.2.1 y2.1.1 1 y1.1.1 []
def Tryz.JZ.kB (tK:Tryz.ET.KT):Tryz.JZ.T:=fun t11 b0 b1_0 b1_1 b1_2=>
 ci (t11=0) ((Tryz.Ti.k b0 (Dop.UO.mk b1_0 b1_1 b1_2)).bind fun y1=>
 ci y1.1.1 (Aw true)<|
 Aw false)<|
 Aw false
def Tryz.ET.kS (tK:Tryz.ET.KT):Tryz.ET.KT:=(Tryz.H9.kB tK,Tryz.JZ.kB tK,())
def Tryz.ET.kL (n:Nat):Tryz.ET.KT:=Bd Tryz.ET.kS n
def Tryz.ET.k0 (tK:Tryz.ET.KT) (o:List Int) (t1:List (List UInt8)):C9 Bool:=
 ci (12<I t1.length) (Aw true)<|
 ck (Al (I t1.length+1))<|
 ci (!(I o.length=I t1.length+1)) (Aw true)<|
 tK.1 o t1 t1 (I t1.length) 0
def Tryz.ET.k (o:List Int) (t1:List (List UInt8)):C9 Bool:=Tryz.ET.k0 (Tryz.ET.kL 1000000) o t1
def Tryz.ET.Kc:=kd 3 Tryz.ET.p fun x=>Tryz.ET.k x.1.1 x.1.2.1
theorem Tryz.ET.Kh:Tryz.ET.Kc.Holds Tryz.prog:=GB Tryz.AJ (hc Tryz.Sr.holds (hc Tryz.IA.Kh (hc Tryz.Ex.Kh (hc Tryz.Rm.Kh (hc Tryz.El.Hi (hc Tryz.Ti.Kh hn)))))) Tryz.ET.ok (fun t x=>Tryz.ET.k0 t x.1.1 x.1.2.1) (fun c=>(fun o t1 t27 t28 t29=>c 4 Tryz.ET.q4 rfl ((o,t1,t27,t28,t29,()),()),fun t11 b0 b1_0 b1_1 b1_2=>c 18 Tryz.ET.dP rfl (((),t11,(),()),((b0,()),(b1_0,b1_1,b1_2,()),())),())) Tryz.ET.kS (by kernel_rfl)
end
end Go.Proofs
