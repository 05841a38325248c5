/- What the boxes of some types hold: as one, with names of the parts. Written by a program. -/
import Derived.Test.YtkpggdcpaeanaaaGreatDoorMj
set_option linter.all false
namespace Go.Proofs
open Go Go.En
abbrev CK:Type:=En.Dop.G3×Unit×List (Int)×List (En.Dop.EY)×List (En.Dop.NY)×Int×List (En.Dop.AU)×List (List (List UInt8×En.Dop.DP))×List (List UInt8×En.Dop.Pw)×List (List UInt8×Int)×En.Dop.EY×Int×List (List UInt8×Int)×List (List UInt8×Int)×Int×List (List (Int×Int))×Int×Int×Int×Unit
abbrev CK.t (k:CK):En.Dop.G3:=k.1
abbrev CK.jC (k:CK) (v:En.Dop.G3):CK:=(v,k.2)
abbrev CK.num (k:CK):List (Int):=k.2.2.1
abbrev CK.NJ (k:CK) (v:List (Int)):CK:=(k.1,k.2.1,v,k.2.2.2)
abbrev CK.funcs (k:CK):List (En.Dop.EY):=k.2.2.2.1
abbrev CK.Jm (k:CK) (v:List (En.Dop.EY)):CK:=(k.1,k.2.1,k.2.2.1,v,k.2.2.2.2)
abbrev CK.globals (k:CK):List (En.Dop.NY):=k.2.2.2.2.1
abbrev CK.Ey (k:CK) (v:List (En.Dop.NY)):CK:=(k.1,k.2.1,k.2.2.1,k.2.2.2.1,v,k.2.2.2.2.2)
abbrev CK.top (k:CK):Int:=k.2.2.2.2.2.1
abbrev CK.OK (k:CK) (v:Int):CK:=(k.1,k.2.1,k.2.2.1,k.2.2.2.1,k.2.2.2.2.1,v,k.2.2.2.2.2.2)
abbrev CK.nodes (k:CK):List (En.Dop.AU):=k.2.2.2.2.2.2.1
abbrev CK.Dx (k:CK) (v:List (En.Dop.AU)):CK:=(k.1,k.2.1,k.2.2.1,k.2.2.2.1,k.2.2.2.2.1,k.2.2.2.2.2.1,v,k.2.2.2.2.2.2.2)
abbrev CK.names (k:CK):List (List (List UInt8×En.Dop.DP)):=k.2.2.2.2.2.2.2.1
abbrev CK.Cp (k:CK) (v:List (List (List UInt8×En.Dop.DP))):CK:=(k.1,k.2.1,k.2.2.1,k.2.2.2.1,k.2.2.2.2.1,k.2.2.2.2.2.1,k.2.2.2.2.2.2.1,v,k.2.2.2.2.2.2.2.2)
abbrev CK.sigs (k:CK):List (List UInt8×En.Dop.Pw):=k.2.2.2.2.2.2.2.2.1
abbrev CK.Iy (k:CK) (v:List (List UInt8×En.Dop.Pw)):CK:=(k.1,k.2.1,k.2.2.1,k.2.2.2.1,k.2.2.2.2.1,k.2.2.2.2.2.1,k.2.2.2.2.2.2.1,k.2.2.2.2.2.2.2.1,v,k.2.2.2.2.2.2.2.2.2)
abbrev CK.taken (k:CK):List (List UInt8×Int):=k.2.2.2.2.2.2.2.2.2.1
abbrev CK.Zx (k:CK) (v:List (List UInt8×Int)):CK:=(k.1,k.2.1,k.2.2.1,k.2.2.2.1,k.2.2.2.2.1,k.2.2.2.2.2.1,k.2.2.2.2.2.2.1,k.2.2.2.2.2.2.2.1,k.2.2.2.2.2.2.2.2.1,v,k.2.2.2.2.2.2.2.2.2.2)
abbrev CK.f (k:CK):En.Dop.EY:=k.2.2.2.2.2.2.2.2.2.2.1
abbrev CK.dO (k:CK) (v:En.Dop.EY):CK:=(k.1,k.2.1,k.2.2.1,k.2.2.2.1,k.2.2.2.2.1,k.2.2.2.2.2.1,k.2.2.2.2.2.2.1,k.2.2.2.2.2.2.2.1,k.2.2.2.2.2.2.2.2.1,k.2.2.2.2.2.2.2.2.2.1,v,k.2.2.2.2.2.2.2.2.2.2.2)
abbrev CK.EV (k:CK):Int:=k.2.2.2.2.2.2.2.2.2.2.2.1
abbrev CK.Lp (k:CK) (v:Int):CK:=(k.1,k.2.1,k.2.2.1,k.2.2.2.1,k.2.2.2.2.1,k.2.2.2.2.2.1,k.2.2.2.2.2.2.1,k.2.2.2.2.2.2.2.1,k.2.2.2.2.2.2.2.2.1,k.2.2.2.2.2.2.2.2.2.1,k.2.2.2.2.2.2.2.2.2.2.1,v,k.2.2.2.2.2.2.2.2.2.2.2.2)
abbrev CK.labels (k:CK):List (List UInt8×Int):=k.2.2.2.2.2.2.2.2.2.2.2.2.1
abbrev CK.Q6 (k:CK) (v:List (List UInt8×Int)):CK:=(k.1,k.2.1,k.2.2.1,k.2.2.2.1,k.2.2.2.2.1,k.2.2.2.2.2.1,k.2.2.2.2.2.2.1,k.2.2.2.2.2.2.2.1,k.2.2.2.2.2.2.2.2.1,k.2.2.2.2.2.2.2.2.2.1,k.2.2.2.2.2.2.2.2.2.2.1,k.2.2.2.2.2.2.2.2.2.2.2.1,v,k.2.2.2.2.2.2.2.2.2.2.2.2.2)
abbrev CK.gotos (k:CK):List (List UInt8×Int):=k.2.2.2.2.2.2.2.2.2.2.2.2.2.1
abbrev CK.Zv (k:CK) (v:List (List UInt8×Int)):CK:=(k.1,k.2.1,k.2.2.1,k.2.2.2.1,k.2.2.2.2.1,k.2.2.2.2.2.1,k.2.2.2.2.2.2.1,k.2.2.2.2.2.2.2.1,k.2.2.2.2.2.2.2.2.1,k.2.2.2.2.2.2.2.2.2.1,k.2.2.2.2.2.2.2.2.2.2.1,k.2.2.2.2.2.2.2.2.2.2.2.1,k.2.2.2.2.2.2.2.2.2.2.2.2.1,v,k.2.2.2.2.2.2.2.2.2.2.2.2.2.2)
abbrev CK.loops (k:CK):Int:=k.2.2.2.2.2.2.2.2.2.2.2.2.2.2.1
abbrev CK.H2 (k:CK) (v:Int):CK:=(k.1,k.2.1,k.2.2.1,k.2.2.2.1,k.2.2.2.2.1,k.2.2.2.2.2.1,k.2.2.2.2.2.2.1,k.2.2.2.2.2.2.2.1,k.2.2.2.2.2.2.2.2.1,k.2.2.2.2.2.2.2.2.2.1,k.2.2.2.2.2.2.2.2.2.2.1,k.2.2.2.2.2.2.2.2.2.2.2.1,k.2.2.2.2.2.2.2.2.2.2.2.2.1,k.2.2.2.2.2.2.2.2.2.2.2.2.2.1,v,k.2.2.2.2.2.2.2.2.2.2.2.2.2.2.2)
abbrev CK.RD (k:CK):List (List (Int×Int)):=k.2.2.2.2.2.2.2.2.2.2.2.2.2.2.2.1
abbrev CK.OJ (k:CK) (v:List (List (Int×Int))):CK:=(k.1,k.2.1,k.2.2.1,k.2.2.2.1,k.2.2.2.2.1,k.2.2.2.2.2.1,k.2.2.2.2.2.2.1,k.2.2.2.2.2.2.2.1,k.2.2.2.2.2.2.2.2.1,k.2.2.2.2.2.2.2.2.2.1,k.2.2.2.2.2.2.2.2.2.2.1,k.2.2.2.2.2.2.2.2.2.2.2.1,k.2.2.2.2.2.2.2.2.2.2.2.2.1,k.2.2.2.2.2.2.2.2.2.2.2.2.2.1,k.2.2.2.2.2.2.2.2.2.2.2.2.2.2.1,v,k.2.2.2.2.2.2.2.2.2.2.2.2.2.2.2.2)
abbrev CK.Px (k:CK):Int:=k.2.2.2.2.2.2.2.2.2.2.2.2.2.2.2.2.1
abbrev CK.Ku (k:CK) (v:Int):CK:=(k.1,k.2.1,k.2.2.1,k.2.2.2.1,k.2.2.2.2.1,k.2.2.2.2.2.1,k.2.2.2.2.2.2.1,k.2.2.2.2.2.2.2.1,k.2.2.2.2.2.2.2.2.1,k.2.2.2.2.2.2.2.2.2.1,k.2.2.2.2.2.2.2.2.2.2.1,k.2.2.2.2.2.2.2.2.2.2.2.1,k.2.2.2.2.2.2.2.2.2.2.2.2.1,k.2.2.2.2.2.2.2.2.2.2.2.2.2.1,k.2.2.2.2.2.2.2.2.2.2.2.2.2.2.1,k.2.2.2.2.2.2.2.2.2.2.2.2.2.2.2.1,v,k.2.2.2.2.2.2.2.2.2.2.2.2.2.2.2.2.2)
abbrev CK.e (k:CK):Int:=k.2.2.2.2.2.2.2.2.2.2.2.2.2.2.2.2.2.1
abbrev CK.X5 (k:CK) (v:Int):CK:=(k.1,k.2.1,k.2.2.1,k.2.2.2.1,k.2.2.2.2.1,k.2.2.2.2.2.1,k.2.2.2.2.2.2.1,k.2.2.2.2.2.2.2.1,k.2.2.2.2.2.2.2.2.1,k.2.2.2.2.2.2.2.2.2.1,k.2.2.2.2.2.2.2.2.2.2.1,k.2.2.2.2.2.2.2.2.2.2.2.1,k.2.2.2.2.2.2.2.2.2.2.2.2.1,k.2.2.2.2.2.2.2.2.2.2.2.2.2.1,k.2.2.2.2.2.2.2.2.2.2.2.2.2.2.1,k.2.2.2.2.2.2.2.2.2.2.2.2.2.2.2.1,k.2.2.2.2.2.2.2.2.2.2.2.2.2.2.2.2.1,v,k.2.2.2.2.2.2.2.2.2.2.2.2.2.2.2.2.2.2)
abbrev CK.when (k:CK):Int:=k.2.2.2.2.2.2.2.2.2.2.2.2.2.2.2.2.2.2.1
abbrev CK.FE (k:CK) (v:Int):CK:=(k.1,k.2.1,k.2.2.1,k.2.2.2.1,k.2.2.2.2.1,k.2.2.2.2.2.1,k.2.2.2.2.2.2.1,k.2.2.2.2.2.2.2.1,k.2.2.2.2.2.2.2.2.1,k.2.2.2.2.2.2.2.2.2.1,k.2.2.2.2.2.2.2.2.2.2.1,k.2.2.2.2.2.2.2.2.2.2.2.1,k.2.2.2.2.2.2.2.2.2.2.2.2.1,k.2.2.2.2.2.2.2.2.2.2.2.2.2.1,k.2.2.2.2.2.2.2.2.2.2.2.2.2.2.1,k.2.2.2.2.2.2.2.2.2.2.2.2.2.2.2.1,k.2.2.2.2.2.2.2.2.2.2.2.2.2.2.2.2.1,k.2.2.2.2.2.2.2.2.2.2.2.2.2.2.2.2.2.1,v,k.2.2.2.2.2.2.2.2.2.2.2.2.2.2.2.2.2.2.2)
abbrev CK.b0:En.GK:=⟨0,135,[.st 7,.al 1 0,.own 0 3,.own 11 52,.own 12 32,.st 0,.own 5 56,.mr (.str) 9 true 129,.mp (.str) 15 true,.mp (.str) 0 false,.st 11,.st 0,.mp (.str) 0 false,.mp (.str) 0 false,.st 0,.mr (.int .i64) 0 false 217,.st 0,.fd (.int .i64),.st 0],false⟩
abbrev CK.b1:En.GK:=⟨1,135,[.st 7,.al 2 0,.own 0 3,.own 11 52,.own 12 32,.st 0,.own 5 56,.mr (.str) 9 true 129,.mp (.str) 15 true,.mp (.str) 0 false,.st 11,.st 0,.mp (.str) 0 false,.mp (.str) 0 false,.st 0,.mr (.int .i64) 0 false 217,.st 0,.fd (.int .i64),.st 0],false⟩
abbrev CT:Type:=List (En.Dop.G4)×List (List UInt8×List (En.Dop.Pz))×Unit
abbrev CT.l (k:CT):List (En.Dop.G4):=k.1
abbrev CT.kU (k:CT) (v:List (En.Dop.G4)):CT:=(v,k.2)
abbrev CT.fields (k:CT):List (List UInt8×List (En.Dop.Pz)):=k.2.1
abbrev CT.X6 (k:CT) (v:List (List UInt8×List (En.Dop.Pz))):CT:=(k.1,v,k.2.2)
abbrev CT.b0:En.GK:=⟨0,168,[.own 6 93,.mp (.str) 17 false],false⟩
abbrev CT.b1:En.GK:=⟨1,168,[.own 6 93,.mp (.str) 17 false],false⟩
abbrev CT.b2:En.GK:=⟨2,168,[.own 6 93,.mp (.str) 17 false],false⟩
end Go.Proofs
/- Functions of the seat, lifted: plan, model, contract, equations. Written by a program (Lift) that ran the layer's evaluation; Lean checks each line. -/
set_option maxRecDepth 100000
set_option maxHeartbeats 4000000
namespace Go.Proofs.Tryz
open Go Go.En
def Ef.p:Af:=⟨[],1,⟨[.al 0 0,.fd (.int .i64)],[CT.b0]⟩,⟨[.st 6,.fd .bool],[CT.b0]⟩,false,[],[]⟩
theorem Ef.ok:AG Dop.D4 prog 163 Ef.p=true:=by kernel_rfl
def Ik.p:Af:=⟨[],1,⟨[.al 0 0,.st 6],[CT.b0]⟩,⟨[.fd (.int .i64),.fd (.int .i64)],[CT.b0]⟩,false,[(1,⟨[(0,true),(1,true),(2,true),(3,false),(4,false),(5,false),(6,true)],[],[0,1,3,7,0,31,63],true⟩),(6,⟨[(0,true),(1,true),(2,true),(3,true),(4,false),(5,false),(6,false)],[7,8,9,10],[0,0,2,6,14,0,32,126,255,511,1023],false⟩)],[]⟩
theorem Ik.ok:AG Dop.D4 prog 193 Ik.p=true:=by kernel_rfl
def Ig.p:Af:=⟨[],1,⟨[.al 0 0,.fd (.int .i64)],[CT.b0]⟩,⟨[.fd (.int .i64),.fd (.int .i64)],[CT.b0]⟩,false,[],[]⟩
theorem Ig.ok:AG Dop.D4 prog 159 Ig.p=true:=by kernel_rfl
abbrev BU.VH:Cut:=⟨[[0,0,0,0,1,0,1,0,1,1,1,1,1,0,0,1,1],[0,1,0,0,1,0,1,0,1,1,1,1,1,0,0,1,1],[2,0,0,1,0,1,0,1,1,1,1,1,0,0,1,1],[1,1],[0,1,1,0,1,1,1,1,1,0,0,1,1],[1,0],[0,1,1,1]],[0,10,54,55,56],1,⟨[.al 0 0,.fd (.int .i64),.fd (.sl 16),.fd (.int .i64),.fd (.int .i64)],[CT.b0]⟩⟩
def BU.p:Af:=⟨[(10,BU.VH)],1,⟨[.al 0 0,.fd (.int .i64)],[CT.b0]⟩,⟨[.fd (.int .i64),.fd .bool],[CT.b0]⟩,false,[(9,⟨[(0,true),(1,true),(2,true),(3,false),(4,true),(5,false),(6,false),(7,false),(8,true)],[],[0,1,3,7,0,16,63,127,0],false⟩)],[]⟩
theorem BU.ok:AG Dop.D4 prog 124 BU.p=true:=by kernel_rfl
abbrev Fi.T:Type:=(((Unit×Int×Unit)×(CT×Unit))->Option ((Int×Bool×Unit)×(CT×Unit)))×Unit
def KD.p:Af:=⟨[],1,⟨[.al 0 0,.fd (.int .i64),.fd (.int .i64)],[CT.b0]⟩,⟨[.fd (.int .i64),.fd (.int .i64)],[CT.b0]⟩,false,[],[]⟩
theorem KD.ok:AG Dop.D4 prog 160 KD.p=true:=by kernel_rfl
def Ih.p:Af:=⟨[],1,⟨[.al 0 0,.fd .str],[CT.b0]⟩,⟨[.fd (.int .i64),.fd (.int .i64)],[CT.b0]⟩,false,[],[]⟩
theorem Ih.ok:AG Dop.D4 prog 161 Ih.p=true:=by kernel_rfl
def Dd.p:Af:=⟨[],1,⟨[.al 0 0,.fd (.int .i64)],[CT.b0]⟩,⟨[.fd .bool],[CT.b0]⟩,false,[],[]⟩
theorem Dd.ok:AG Dop.D4 prog 128 Dd.p=true:=by kernel_rfl
abbrev HS.q6:Cut:=⟨[[0,0,0,0,1,0,1,1,1,1],[0,1,0,0,1,0,1,1,1,1],[2,0,0,1,0,1,1,1,1],[1,0],[0,1,1,1,1,1]],[0,2,11,35,36,37],1,⟨[.al 0 0,.fd .str,.fd (.int .i64),.fd (.sl 16),.fd (.int .i64),.fd (.int .i64)],[CT.b0]⟩⟩
def HS.p:Af:=⟨[(6,HS.q6)],1,⟨[.al 0 0,.fd (.int .i64),.fd .str],[CT.b0]⟩,⟨[.fd (.int .i64),.fd (.int .i64),.fd .bool],[CT.b0]⟩,false,[(5,⟨[(0,true),(1,true),(2,true),(3,false),(4,true),(5,false),(6,false),(7,false),(8,true)],[],[0,1,3,7,0,16,63,127,0],false⟩),(9,⟨[(0,true),(1,true),(2,false),(3,true),(4,true),(5,true)],[],[0,0,2,1,15,31],false⟩)],[]⟩
theorem HS.ok:AG Dop.D4 prog 248 HS.p=true:=by kernel_rfl
def NZ.p:Af:=⟨[],2,⟨[.al 0 0,.fd (.int .i64)],[CK.b0,CT.b1]⟩,⟨[.st 5],[CK.b0,CT.b1]⟩,false,[],[]⟩
theorem NZ.ok:AG Dop.D4 prog 74 NZ.p=true:=by kernel_rfl
def A4.p:Af:=⟨[],2,⟨[.al 0 0,.fd (.int .i64),.fd (.int .i64)],[CK.b0,CT.b1]⟩,⟨[.st 10],[CK.b0,CT.b1]⟩,false,[],[]⟩
theorem A4.ok:AG Dop.D4 prog 123 A4.p=true:=by kernel_rfl
def DU.p:Af:=⟨[],2,⟨[.al 0 0,.fd (.int .i64)],[CK.b0,CT.b1]⟩,⟨[.fd (.int .i64)],[CK.b0,CT.b1]⟩,false,[],[]⟩
theorem DU.ok:AG Dop.D4 prog 127 DU.p=true:=by kernel_rfl
def E7.p:Af:=⟨[],2,⟨[.al 0 0,.fd (.int .i64)],[CK.b0,CT.b1]⟩,⟨[.fd .bool],[CK.b0,CT.b1]⟩,false,[],[]⟩
theorem E7.ok:AG Dop.D4 prog 125 E7.p=true:=by kernel_rfl
def F5.p:Af:=⟨[],2,⟨[.al 0 0,.fd (.int .i64)],[CK.b0,CT.b1]⟩,⟨[.fd (.int .i64),.fd (.int .i64)],[CK.b0,CT.b1]⟩,false,[(2,⟨[(0,true),(1,true),(2,true),(3,false),(4,true),(5,false),(6,false),(7,true),(8,true),(9,true),(10,true),(11,true)],[2000000],[0,1,3,7,0,16,63,127,255,255,511,2047],false⟩)],[]⟩
theorem F5.ok:AG Dop.D4 prog 228 F5.p=true:=by kernel_rfl
def Mk.p:Af:=⟨[],2,⟨[.al 0 0,.fd (.int .i64)],[CK.b0,CT.b1]⟩,⟨[.fd .bool],[CK.b0,CT.b1]⟩,false,[],[]⟩
theorem Mk.ok:AG Dop.D4 prog 242 Mk.p=true:=by kernel_rfl
def Gy.p:Af:=⟨[],2,⟨[.al 0 0,.fd (.int .i64),.fd (.int .i64)],[CK.b0,CT.b1]⟩,⟨[.fd (.int .i64)],[CK.b0,CT.b1]⟩,false,[],[]⟩
theorem Gy.ok:AG Dop.D4 prog 240 Gy.p=true:=by kernel_rfl
def BO.p:Af:=⟨[],2,⟨[.al 0 0,.fd (.int .i64),.fd (.int .i64),.fd (.int .i64),.fd (.int .i64),.fd (.int .i64),.fd .str],[CK.b0,CT.b1]⟩,⟨[.fd (.int .i64)],[CK.b0,CT.b1]⟩,false,[],[]⟩
noncomputable def BO.E:Env Dop.D4:=Ae prog 132 tb [] BO.p
theorem BO.ok:AG Dop.D4 prog 132 BO.p=true:=by kernel_rfl
noncomputable def BO.c:Bp Dop.D4:=⟨132,BO.p.bn,BO.p.sp,BO.p.rs,BO.p.flat,.opt (BO.E.run 3000 BO.p.sp)⟩
theorem BO.holds:BO.c.Holds prog:=Ek 3000 AH B7 BO.ok
def EH.p:Af:=⟨[],0,⟨[.fd (.int .i64)],[]⟩,⟨[.fd (.int .i64)],[]⟩,true,[],[]⟩
theorem EH.ok:AG Dop.D4 prog 126 EH.p=true:=by kernel_rfl
def Eg.p:Af:=⟨[],2,⟨[.al 0 0,.fd (.int .i64)],[CK.b0,CT.b1]⟩,⟨[.fd (.int .i64)],[CK.b0,CT.b1]⟩,false,[],[]⟩
theorem Eg.ok:AG Dop.D4 prog 165 Eg.p=true:=by kernel_rfl
def FL.p:Af:=⟨[],2,⟨[.al 0 0,.fd (.int .i64)],[CK.b0,CT.b1]⟩,⟨[.fd (.int .i64)],[CK.b0,CT.b1]⟩,false,[],[]⟩
theorem FL.ok:AG Dop.D4 prog 134 FL.p=true:=by kernel_rfl
def Ii.p:Af:=⟨[],2,⟨[.al 0 0,.fd (.int .i64)],[CK.b0,CT.b1]⟩,⟨[.fd (.int .i64)],[CK.b0,CT.b1]⟩,false,[],[]⟩
theorem Ii.ok:AG Dop.D4 prog 164 Ii.p=true:=by kernel_rfl
def Im.p:Af:=⟨[],2,⟨[.al 0 0,.fd (.int .i64)],[CK.b0,CT.b1]⟩,⟨[.fd (.int .i64)],[CK.b0,CT.b1]⟩,false,[],[]⟩
theorem Im.ok:AG Dop.D4 prog 238 Im.p=true:=by kernel_rfl
def KF.p:Af:=⟨[],2,⟨[.al 0 0,.fd (.int .i64)],[CK.b0,CT.b1]⟩,⟨[.fd (.int .i64)],[CK.b0,CT.b1]⟩,false,[],[]⟩
theorem KF.ok:AG Dop.D4 prog 239 KF.p=true:=by kernel_rfl
def Il.p:Af:=⟨[],2,⟨[.al 0 0,.fd (.int .i64),.fd (.int .i64)],[CK.b0,CT.b1]⟩,⟨[.st 10],[CK.b0,CT.b1]⟩,false,[],[]⟩
theorem Il.ok:AG Dop.D4 prog 217 Il.p=true:=by kernel_rfl
def GY.p:Af:=⟨[],2,⟨[.al 0 0,.st 9],[CK.b0,CT.b1]⟩,⟨[.fd (.int .i64)],[CK.b0,CT.b1]⟩,false,[],[]⟩
theorem GY.ok:AG Dop.D4 prog 133 GY.p=true:=by kernel_rfl
def HQ.p:Af:=⟨[],2,⟨[.al 0 0,.fd (.int .i64),.fd (.int .i64)],[CK.b0,CT.b1]⟩,⟨[.fd (.int .i64)],[CK.b0,CT.b1]⟩,false,[],[]⟩
theorem HQ.ok:AG Dop.D4 prog 229 HQ.p=true:=by kernel_rfl
def HR.p:Af:=⟨[],2,⟨[.al 0 0,.fd (.int .i64),.fd (.int .i64)],[CK.b0,CT.b1]⟩,⟨[.fd (.int .i64)],[CK.b0,CT.b1]⟩,false,[],[]⟩
theorem HR.ok:AG Dop.D4 prog 230 HR.p=true:=by kernel_rfl
def CU.p:Af:=⟨[],2,⟨[.al 0 0,.fd (.int .i64),.fd (.int .i64),.fd (.int .i64),.fd (.int .i64),.fd (.int .i64),.fd (.int .i64),.fd .str],[CK.b0,CT.b1]⟩,⟨[.fd (.int .i64)],[CK.b0,CT.b1]⟩,false,[],[]⟩
theorem CU.ok:AG Dop.D4 prog 131 CU.p=true:=by kernel_rfl
abbrev Bl.q7:Cut:=⟨[[0,0,0,1,1,1,1],[0,1,0,1,1,1,1],[0,1,1,1,1,1]],[0,2,3,4,6,11,12,13],3,⟨[.al 0 0,.fd (.int .i64),.fd (.int .i64),.fd .bool,.al 2 0,.fd (.int .i64),.fd (.int .i64),.fd .bool],[CK.b0,CT.b1,⟨2,174,[.st 10],false⟩]⟩⟩
abbrev Bl.c9:Cut:=⟨[[0,0,0,1,1,1,1,1,1],[0,1,0,1,1,1,1,1,1],[0,1,1,1,1,1,1,1]],[0,3,6,11,12,13],3,⟨[.al 0 0,.fd (.int .i64),.al 2 0,.fd (.int .i64),.fd (.int .i64),.fd .bool],[CK.b0,CT.b1,⟨2,174,[.st 10],false⟩]⟩⟩
def Bl.p:Af:=⟨[(7,Bl.q7),(11,Bl.c9)],2,⟨[.al 0 0,.st 10,.fd (.int .i64),.fd (.int .i64),.fd .bool],[CK.b0,CT.b1]⟩,⟨[.fd (.int .i64)],[CK.b0,CT.b1]⟩,false,[(10,⟨[(0,true),(1,true),(2,true),(3,false),(4,true),(5,false),(6,false),(7,true),(8,true),(9,true),(10,true),(11,false),(12,true),(13,false),(14,true),(15,true)],[2000000],[0,1,3,7,0,16,63,127,255,511,1023,2047,255,8191,16383,32767],false⟩)],[]⟩
theorem Bl.ok:AG Dop.D4 prog 195 Bl.p=true:=by kernel_rfl
def Io.p:Af:=⟨[],2,⟨[.al 0 0,.fd (.int .i64),.fd (.int .i64),.fd (.int .i64)],[CK.b0,CT.b1]⟩,⟨[.fd (.int .i64)],[CK.b0,CT.b1]⟩,false,[],[]⟩
theorem Io.ok:AG Dop.D4 prog 243 Io.p=true:=by kernel_rfl
def Ml.p:Af:=⟨[],2,⟨[.al 0 0,.fd (.int .i64),.fd (.int .i64)],[CK.b0,CT.b1]⟩,⟨[.fd (.int .i64)],[CK.b0,CT.b1]⟩,false,[],[]⟩
theorem Ml.ok:AG Dop.D4 prog 244 Ml.p=true:=by kernel_rfl
abbrev Cz.q2:Cut:=⟨[[0,0,0,0,0,1,0,1],[0,1,0,0,0,1,0,1],[0,1,0,0,1,0,1],[2,0,0,1,0,1],[1,0],[0,1,1]],[0,1,2,7],2,⟨[.al 0 0,.fd (.int .i64),.fd (.int .i64),.fd (.int .i64)],[CK.b0,CT.b1]⟩⟩
abbrev Cz.YU:Cut:=⟨[[0,0,0,1,1,1,0,0,1,0,0,1,0,1],[0,1,0,1,1,1,0,0,1,0,0,1,0,1],[0,1,1,1,1,0,0,1,0,0,1,0,1],[1,1],[0,1,1,0,0,1,0,1],[2,0,0,1,0,1],[1,0],[0,1,1]],[0,1,2,7,9,10],2,⟨[.al 0 0,.fd (.int .i64),.fd (.int .i64),.fd (.int .i64),.fd (.int .i64),.fd (.int .i64)],[CK.b0,CT.b1]⟩⟩
def Cz.p:Af:=⟨[(2,Cz.q2),(13,Cz.YU)],2,⟨[.al 0 0,.fd (.int .i64),.fd (.int .i64)],[CK.b0,CT.b1]⟩,⟨[.fd (.int .i64)],[CK.b0,CT.b1]⟩,false,[(8,⟨[(0,true),(1,true),(2,true),(3,false),(4,true),(5,true),(6,true),(7,false),(8,true),(9,false),(10,false),(11,false),(12,false),(13,true),(14,true),(15,true),(16,true),(17,true)],[2000000],[0,1,3,7,0,16,48,112,0,256,1008,2032,4095,8191,16383,16383,32767,131071],false⟩),(10,⟨[(0,true),(1,true),(2,true),(3,false),(4,true),(5,true),(6,true),(7,false),(8,true),(9,false),(10,false),(11,false),(12,true),(13,false),(14,false),(15,true),(16,true),(17,true),(18,true),(19,true)],[2000000],[0,1,3,7,0,16,48,112,0,256,1008,2032,0,4096,16383,32767,65535,65535,131071,524287],false⟩),(12,⟨[(0,true),(1,true),(2,true),(3,false),(4,true),(5,false),(6,false),(7,true),(8,true),(9,true),(10,true),(11,true)],[2000000],[0,1,3,7,0,16,63,127,255,255,511,2047],false⟩)],[]⟩
theorem Cz.ok:AG Dop.D4 prog 121 Cz.p=true:=by kernel_rfl
def IA.p:Af:=⟨[],2,⟨[.al 0 0,.st 10,.fd (.int .i64)],[CK.b0,CT.b1]⟩,⟨[.st 10],[CK.b0,CT.b1]⟩,false,[],[]⟩
theorem IA.ok:AG Dop.D4 prog 225 IA.p=true:=by kernel_rfl
abbrev HP.c9:Cut:=⟨[[0,0,1,1,1,1],[0,1,1,1,1,1]],[0,6,7,8,10,11],6,⟨[.al 0 0,.al 2 0,.al 3 0,.al 4 0,.al 5 0,.fd (.int .i64)],[CK.b0,CT.b1,⟨2,174,[.st 10],false⟩,⟨3,174,[.st 10],false⟩,⟨4,174,[.st 10],false⟩,⟨5,174,[.st 10],false⟩]⟩⟩
def HP.p:Af:=⟨[(11,HP.c9)],2,⟨[.al 0 0,.st 10,.st 10,.st 10,.fd (.int .i64)],[CK.b0,CT.b1]⟩,⟨[.st 10],[CK.b0,CT.b1]⟩,false,[],[]⟩
theorem HP.ok:AG Dop.D4 prog 224 HP.p=true:=by kernel_rfl
def KH.p:Af:=⟨[],2,⟨[.al 0 0,.fd (.int .i64),.fd (.int .i64)],[CK.b0,CT.b1]⟩,⟨[.fd (.int .i64)],[CK.b0,CT.b1]⟩,false,[],[]⟩
theorem KH.ok:AG Dop.D4 prog 246 KH.p=true:=by kernel_rfl
def Gw.p:Af:=⟨[],2,⟨[.al 0 0,.st 10,.fd (.int .i64)],[CK.b0,CT.b1]⟩,⟨[.fd (.int .i64)],[CK.b0,CT.b1]⟩,false,[],[]⟩
theorem Gw.ok:AG Dop.D4 prog 196 Gw.p=true:=by kernel_rfl
end Go.Proofs.Tryz
/- Functions of the seat, lifted: plan, model, contract, equations. Written by a program (Lift) that ran the layer's evaluation; Lean checks each line. -/
set_option maxRecDepth 100000
set_option maxHeartbeats 4000000
namespace Go.Proofs.Tryz
open Go Go.En
def Mj.p:Af:=⟨[],0,⟨[],[]⟩,⟨[.mp (.str) 14 true],[]⟩,true,[],[]⟩
theorem Mj.ok:AG Dop.D4 prog 241 Mj.p=true:=by kernel_rfl
def KG.p:Af:=⟨[],2,⟨[.al 0 0,.st 10,.fd (.int .i64)],[CK.b0,CT.b1]⟩,⟨[.fd (.int .i64),.st 10],[CK.b0,CT.b1]⟩,false,[(2,⟨[(0,false),(1,true)],[2],[0,0,3],false⟩),(6,⟨[(0,true),(1,true),(2,true),(3,true),(4,false),(5,false),(6,true),(7,false),(8,true),(9,true),(10,true)],[11,1000000],[0,0,0,0,12,30,0,64,0,510,63,2047],false⟩)],[]⟩
theorem KG.ok:AG Dop.D4 prog 245 KG.p=true:=by kernel_rfl
end Go.Proofs.Tryz
/- Functions of the seat, lifted: plan, model, contract, equations. Written by a program (Lift) that ran the layer's evaluation; Lean checks each line. -/
set_option maxRecDepth 100000
set_option maxHeartbeats 4000000
namespace Go.Proofs.Tryz
open Go Go.En
abbrev Dg.q4:Cut:=⟨[[0,0,1,1,1],[0,1,1,1,1]],[0,1,4,7,8,10,11,12],5,⟨[.al 0 0,.fd .str,.fd (.int .i64),.al 2 0,.al 3 0,.al 4 0,.fd .bool,.fd .bool],[CK.b0,CT.b1,⟨2,174,[.st 10],false⟩,⟨3,174,[.st 10],false⟩,⟨4,174,[.st 10],false⟩]⟩⟩
abbrev Dg.VH:Cut:=⟨[[0,0,0,0,1,1,1,1,1,1,1,1],[0,1,0,0,1,1,1,1,1,1,1,1],[1,0],[0,1,1,1,1,1,1,1,1,1]],[0,1,4,7,8,10,11,12,13,14,16],6,⟨[.al 0 0,.fd .str,.fd (.int .i64),.al 2 0,.al 3 0,.al 4 0,.fd .bool,.fd .bool,.al 5 0,.fd .bool,.fd (.int .i64)],[CK.b0,CT.b1,⟨2,174,[.st 10],false⟩,⟨3,174,[.st 10],false⟩,⟨4,174,[.st 10],false⟩,⟨5,267,[.st 14],false⟩]⟩⟩
abbrev Dg.YU:Cut:=⟨[[0,0,0,1,0,1,0,0,1,1,1,1,1,1,1,1],[0,1,0,1,0,1,0,0,1,1,1,1,1,1,1,1],[0,1,1,0,1,0,0,1,1,1,1,1,1,1,1],[1,0],[0,1,1,1,1,1,1,1,1,1]],[0,1,7,8,10,13,16],6,⟨[.al 0 0,.fd .str,.al 2 0,.al 3 0,.al 4 0,.al 5 0,.fd (.int .i64)],[CK.b0,CT.b1,⟨2,174,[.st 10],false⟩,⟨3,174,[.st 10],false⟩,⟨4,174,[.st 10],false⟩,⟨5,267,[.st 14],false⟩]⟩⟩
abbrev Dg.dA:Cut:=⟨[[0,0,1,1,0,0,1,1,1,1,1,1,1,1],[0,1,1,1,0,0,1,1,1,1,1,1,1,1],[1,0],[0,1,1,1,1,1,1,1,1,1]],[0,1,4,7,8,10,11,12,13,16],6,⟨[.al 0 0,.fd .str,.fd (.int .i64),.al 2 0,.al 3 0,.al 4 0,.fd .bool,.fd .bool,.al 5 0,.fd (.int .i64)],[CK.b0,CT.b1,⟨2,174,[.st 10],false⟩,⟨3,174,[.st 10],false⟩,⟨4,174,[.st 10],false⟩,⟨5,267,[.st 14],false⟩]⟩⟩
abbrev Dg.k6:Cut:=⟨[[0,0,0,1,1,1,1,1,1,1,1,1,1],[0,1,0,1,1,1,1,1,1,1,1,1,1],[0,1,1,1,1,1,1,1,1,1,1,1]],[0,1,7,8,10,13,16,24],6,⟨[.al 0 0,.fd .str,.al 2 0,.al 3 0,.al 4 0,.al 5 0,.fd (.int .i64),.fd (.int .i64)],[CK.b0,CT.b1,⟨2,174,[.st 10],false⟩,⟨3,174,[.st 10],false⟩,⟨4,174,[.st 10],false⟩,⟨5,267,[.st 14],false⟩]⟩⟩
def Dg.p:Af:=⟨[(4,Dg.q4),(10,Dg.VH),(13,Dg.YU),(16,Dg.dA),(33,Dg.k6)],2,⟨[.al 0 0,.fd .str,.st 10,.st 10,.fd (.int .i64)],[CK.b0,CT.b1]⟩,⟨[.st 10],[CK.b0,CT.b1]⟩,false,[(3,⟨[(0,true),(1,true),(2,false),(3,false),(4,true),(5,true),(6,true),(7,false),(8,false),(9,true),(10,true),(11,true)],[1000000],[0,0,2,7,15,0,0,64,239,495,511,2047],false⟩),(14,⟨[(0,true),(1,true),(2,false),(3,false),(4,true),(5,false),(6,true),(7,false),(8,false),(9,true)],[10,1000000],[0,0,2,6,0,16,0,64,255,511,1023],false⟩),(15,⟨[(0,true),(1,true),(2,false),(3,false),(4,true),(5,false),(6,true),(7,false),(8,false),(9,true)],[10,1000000],[0,0,2,6,0,16,0,64,255,511,1023],false⟩),(29,⟨[(0,true),(1,false),(2,false),(3,true),(4,false),(5,true),(6,true),(7,false),(8,true),(9,false),(10,false),(11,true),(12,false),(13,true)],[14,1000000],[0,0,2,0,8,0,0,64,0,480,1023,0,2048,8191,16383],false⟩),(31,⟨[(0,true),(1,false),(2,false),(3,true),(4,true),(5,false),(6,true),(7,false),(8,true),(9,false),(10,false),(11,true),(12,false),(13,true)],[14,1000000],[0,0,2,0,0,16,0,120,0,256,1023,0,2048,8191,16383],false⟩),(37,⟨[(0,true),(1,true),(2,false),(3,false),(4,true),(5,false),(6,true),(7,false),(8,false),(9,true),(10,true)],[11,1000000],[0,0,2,6,0,16,0,64,255,0,1023,2047],false⟩)],[]⟩
theorem Dg.ok:AG Dop.D4 prog 219 Dg.p=true:=by kernel_rfl
end Go.Proofs.Tryz
/- core.list: a range over slices.Backward, as a contract. -/
set_option maxRecDepth 100000
namespace Go.Proofs
open Go Go.En Go.RowKit
def Tryz.Aa.p:Af:=⟨[],2,⟨[.al 0 0,.fd (.sl 0)],[CK.b0,CT.b1]⟩,⟨[.fd (.int .i64)],[CK.b0,CT.b1]⟩,false,[],[(99,[])]⟩
noncomputable def Tryz.Aa.E:Env En.Dop.D4:=Ae Tryz.prog 136 Tryz.tb [Tryz.BO.c] Tryz.Aa.p
theorem Tryz.Aa.ok:AG En.Dop.D4 Tryz.prog 136 Tryz.Aa.p=true:=by kernel_rfl
abbrev IE:En.Spec:=⟨[],[CK.b0,CT.b1,⟨2,126,[.al 0 0],false⟩,⟨3,3,[.fd (.int .i64)],false⟩]⟩
abbrev il:En.Spec:=⟨[.al 2 0,.al 3 0,.fd (.int .i64)],[CK.b0,CT.b1,⟨2,126,[.al 0 0],false⟩,⟨3,3,[.fd (.int .i64)],false⟩]⟩
noncomputable def Tryz.Aa.step (x:Int) (y:En.Spec.D En.Dop.D4 IE):Option (En.Spec.D En.Dop.D4 IE):=
 (TF Tryz.Aa.E 3000 [1,0,1,0,1,1] (BB (AR Tryz.prog 136) [1,0,1,0,1,1]) il IE [2,5,7] 4 (((),(),x,()),y.2)).eval (fun _ _=>none)
noncomputable abbrev ij:Code:=BB (AR Tryz.prog 136) [0,0,1,0,1,1]
noncomputable abbrev jJ:Code:=BB (AR Tryz.prog 136) [1,0,1,0,1,1]
noncomputable abbrev ik:Code:=BB (AR Tryz.prog 136) [1,1,1]
noncomputable def Tryz.Aa.go:List Int->En.Spec.D En.Dop.D4 IE->Option (En.Spec.D En.Dop.D4 IE)
 | [],y=>some y
 | x::r,y=>(Tryz.Aa.step x y).bind (Tryz.Aa.go r)
theorem Tryz.Aa.Ia: ∀ (l r:List Int) (y:En.Spec.D En.Dop.D4 IE),Tryz.Aa.go (l++r) y=(Tryz.Aa.go l y).bind (Tryz.Aa.go r)
 | [],r,y=>rfl
 | x::l,r,y=>by
  simp only [List.cons_append,Tryz.Aa.go]
  cases Tryz.Aa.step x y with
  | none=>rfl
  | some z=>exact Tryz.Aa.Ia l r z
noncomputable def Tryz.Aa.R (x:En.Spec.D En.Dop.D4 Tryz.Aa.p.sp):Option (En.Spec.D En.Dop.D4 Tryz.Aa.p.rs):=
 match decide (x.1.2.1.length<9223372036854775807) with
 | true=>(Tryz.Aa.go x.1.2.1.reverse ((),(x.2.1,x.2.2.1,((),()),(-1,()),()))).bind fun y=>some ((y.2.2.2.2.1.1,()),(y.2.1,y.2.2.1,()))
 | false=>none
noncomputable def Tryz.Aa.c:Bp En.Dop.D4:=⟨136,Tryz.Aa.p.bn,Tryz.Aa.p.sp,Tryz.Aa.p.rs,Tryz.Aa.p.flat,.opt Tryz.Aa.R⟩
noncomputable def eZ (l:List Int) (x:En.Spec.D En.Dop.D4 ⟨[],[CK.b0,CT.b1]⟩):St En.Dop.D4:=match En.Spec.enc (S:=En.Dop.D4) ⟨[.al 0 0,.fd (.sl 0)],[CK.b0,CT.b1]⟩ (((),l,()),x.2) 2 with
 | (_,o,_)=>⟨[(0,.ptr 0 0),(1,.h 2),(2,.ptr 17 0),(4,.v (.int .i64 0)),(5,.ptr 18 0),(8,.h 2),(9,.fn 146 [.ptr 19 0])],(19,.AQ 66 [.h 2])::(18,.AQ 3 [.v (.int .i64 (-1))])::(17,.AQ 126 [.ptr 0 0])::o,20,17⟩
theorem Tryz.Aa.part (l:List Int) (x:En.Spec.D En.Dop.D4 ⟨[],[CK.b0,CT.b1]⟩) (vs:List SV) (o:List (Nat×En.Own En.Dop.D4)) (n:Nat) (h:En.Spec.enc (S:=En.Dop.D4) ⟨[.al 0 0,.fd (.sl 0)],[CK.b0,CT.b1]⟩ (((),l,()),x.2) 2=(vs,o,n)):
  OG Tryz.Aa.E 3000 [.code [] (AR Tryz.prog 136)] ⟨BY 0 vs,o,n,17⟩=.ret ([.code [0,1,0,1,1] (.rangeFunc (.tmp 9) #[10,11] ij jJ),.AQ 0,.code [1,1,1] ik],eZ l x):=by
 cases h
 kernel_rfl
noncomputable def Vj:Oper:=match ij with
 | .region _ ⟨o::_⟩ _=>o
 | _=>default
theorem bY:ij=.region 3 #[Vj] false:=by kernel_rfl
theorem TK:Vj.op=.assign (.tmp 11):=by kernel_rfl
theorem L7:Vj.dst=some 7:=by kernel_rfl
theorem Rx:Vj.guard=none:=by kernel_rfl
noncomputable def Vk:Array Oper:=match ik with
 | .seq (.region _ o _) _=>o
 | _=>#[]
theorem ba:ik=.seq (.region 5 Vk false) .ret:=by kernel_rfl
theorem bZ:G2 (AR Tryz.prog 136) [1,0,1,0,1,1]=some jJ:=by kernel_rfl
theorem fL:M0 (AR Tryz.prog 136)=true:=by kernel_rfl
theorem UR (l:List Int) (x:En.Spec.D En.Dop.D4 ⟨[],[CK.b0,CT.b1]⟩):((En.Spec.parse (S:=En.Dop.D4) ⟨[.al 2 0,.al 3 0],IE.bx⟩ true [.ptr 17 0,.ptr 18 0] (eZ l x).o (QS 2) 4).map fun r=>(r.1,lk r.2.o 19,r.2.bl,lk r.2.m 2,lk r.2.m 3,lk r.2.m 0,lk r.2.m 1))=
  some ((((),(),()),(x.2.1,x.2.2.1,((),()),(-1,()),())),some (.AQ 66 [.h 2]),[],some 17,some 18,some 0,some 1):=by kernel_rfl
theorem Vl (l:List Int) (x:En.Spec.D En.Dop.D4 ⟨[],[CK.b0,CT.b1]⟩): ∃ ps,En.Spec.parse (S:=En.Dop.D4) ⟨[.al 2 0,.al 3 0],IE.bx⟩ true [.ptr 17 0,.ptr 18 0] (eZ l x).o (QS 2) 4=some ((((),(),()),(x.2.1,x.2.2.1,((),()),(-1,()),())),ps)/\lk ps.o 19=some (.AQ 66 [.h 2])/\ps.bl=[]/\lk ps.m 2=some 17/\lk ps.m 3=some 18/\lk ps.m 0=some 0/\lk ps.m 1=some 1:=by
 obtain ⟨⟨d,ps⟩,h1,h2⟩:=Option.map_eq_some_iff.1 (UR l x)
 simp only [Prod.mk.injEq] at h2
 obtain ⟨h3,h4,h5,h6,h7,h8,h9⟩:=h2
 exact ⟨ps,h1.trans (by rw [<-h3]),h4,h5,h6,h7,h8,h9⟩
theorem bb (y:En.Spec.D En.Dop.D4 IE):OG Tryz.Aa.E 3000 [.ops Vk Vk.toList] ⟨[(2,.ptr 2 0),(5,.ptr 3 0)],(IE.enc (S:=En.Dop.D4) y 4).2.1,(IE.enc (S:=En.Dop.D4) y 4).2.2,17⟩=
  .ret ([],⟨[(2,.ptr 2 0),(5,.ptr 3 0),(16,.v (.int .i64 y.2.2.2.2.1.1)),(4,.v (.int .i64 y.2.2.2.2.1.1))],(IE.enc (S:=En.Dop.D4) y 4).2.1,(IE.enc (S:=En.Dop.D4) y 4).2.2,17⟩):=by kernel_rfl
theorem bc (y:En.Spec.D En.Dop.D4 IE): ∃ ps,En.Spec.parse (S:=En.Dop.D4) ⟨[.fd (.int .i64)],[CK.b0,CT.b1]⟩ true [.v (.int .i64 y.2.2.2.2.1.1)] (IE.enc (S:=En.Dop.D4) y 4).2.1 (QS 2) 2=some (((y.2.2.2.2.1.1,()),(y.2.1,y.2.2.1,())),ps)/\lk ps.m 0=some 0/\lk ps.m 1=some 1:=by
 have h:((En.Spec.parse (S:=En.Dop.D4) ⟨[.fd (.int .i64)],[CK.b0,CT.b1]⟩ true [.v (.int .i64 y.2.2.2.2.1.1)] (IE.enc (S:=En.Dop.D4) y 4).2.1 (QS 2) 2).map fun r=>(r.1,lk r.2.m 0,lk r.2.m 1))=some (((y.2.2.2.2.1.1,()),(y.2.1,y.2.2.1,())),some 0,some 1):=by kernel_rfl
 obtain ⟨⟨d,ps⟩,h1,h2⟩:=Option.map_eq_some_iff.1 h
 simp only [Prod.mk.injEq] at h2
 obtain ⟨h3,h4,h5⟩:=h2
 exact ⟨ps,h1.trans (by rw [<-h3]),h4,h5⟩
end Go.Proofs
/- core.list: its contract holds. -/
set_option maxRecDepth 100000
namespace Go.Proofs
open Go Go.En Go.RowKit
theorem jK:(Tryz.Aa.E).Ok Tryz.prog/\Bh Tryz.prog 136=true/\Tryz.Aa.p.sp.okB Tryz.Aa.p.bn=true/\ ∃ fn,Tryz.prog.funcs[136]?=some fn/\fn.body=some (AR Tryz.prog 136)/\fn.ntmps=17/\fn.results=#[.tmp 4]:=by
 obtain ⟨h1,h2,h3,fn,h4,h5,h6,h7⟩:=GO (p:=Tryz.Aa.p) Tryz.AH (Az Tryz.BO.holds B7) Tryz.Aa.ok
 have e1:Cd Tryz.prog 136=17:=by kernel_rfl
 have e2:Du Tryz.prog 136=[.tmp 4]:=by kernel_rfl
 refine ⟨h1,h2,h3,fn,h4,h5,h6.trans e1,?_⟩
 rw [e2] at h7
 rw [<-h7]
theorem UQ {l:Nat} {x:Int×Int} {W:World} {a:Act} {K:Act->World->Prop} (hsz:a.tmps.size=17)
  (h: ∀ a':Act,a'.defers=[]->a'.tmps.size=17->(∀ t,t≠7->t≠10->t≠11->a'.tmps.getD t undef=a.tmps.getD t undef)->a'.tmps.getD 7 undef=.int .i64 x.2->K a' W):
  ij.wpIn (Fence.wide.inRound l) 0 Tryz.prog (Exit.then K (fun _ _ _=>False)) { tmps:=(#[10,11].zip #[Value.int .i64 x.1,Value.int .i64 x.2]).foldl (fun t (p,v)=>t.setIfInBounds p v) a.tmps,defers:=[] } W:=by
 rw [bY]
 refine Ex (.inr ⟨⟨l,rfl⟩,fun ⟨_,_,h⟩=>h,fun j o ho=>?_⟩) ?_
 ·cases j with
  | zero=>simp at ho;subst ho;unfold Ec;rw [TK]
  | succ j=>simp at ho
 ·show wpList _ _ _ [Vj] _ _
  unfold wpList
  rw [if_pos (by simp [Region.wanted,Rx])]
  refine .inl (Ai (v:=.int .i64 x.2) (w':=W) ?_ ?_)
  ·simp [execOp,TK,Act.eval,hsz]
  ·refine h _ rfl (by simp [Act.put,L7,hsz]) (fun t h1 h2 h3=>?_) ?_
   ·simp [Act.put,L7,Array.getD_eq_getD_getElem?,Array.getElem?_setIfInBounds,Ne.symm h1,Ne.symm h2,Ne.symm h3]
   ·simp [Act.put,L7,Array.getD_eq_getD_getElem?,Array.getElem?_setIfInBounds,hsz]
def jL (w0 W:World) (F D0 K:Nat->Prop) (β2:Nat->Nm) (y0:En.Spec.D En.Dop.D4 IE) (pre:List (Int×Int)) (W':World):Prop:=
 ∃ y,Tryz.Aa.go (pre.map Prod.snd) y0=some y/\Nd w0 W F D0 K IE 4 β2 W.heap.size y W'
theorem Ym {w0 W W':World} {F D0 K:Nat->Prop} {β2:Nat->Nm} {y0 yq:En.Spec.D En.Dop.D4 IE} (hkp:Bq En.Dop.D4 w0 F D0) {xs pre rest:List (Int×Int)} {x:Int×Int} (hgo:Tryz.Aa.go (xs.map Prod.snd) y0=some yq) (hxs:xs=pre++x::rest) (hI:jL w0 W F D0 K β2 y0 pre W')
  {a':Act} (hd:a'.defers=[]) (hsz:a'.tmps.size=17) (h2:a'.tmps.getD 2 undef=.pointer (some ⟨(β2 2).AQ,0,none⟩)) (h5:a'.tmps.getD 5 undef=.pointer (some ⟨(β2 3).AQ,0,none⟩)) (h7:a'.tmps.getD 7 undef=.int .i64 x.2) (l:Nat):
  jJ.wpIn (Fence.wide.inRound l) 0 Tryz.prog (Lo W.heap.size (jL w0 W F D0 K β2 y0) (fun _ _ _=>False) (pre++[x]) W') a' W':=by
 obtain ⟨y,hy,D,β,vs,o,n,e1,e2,e3,e4,e5,e6,e7,e8,e9⟩:=hI
 obtain ⟨hE,_,_,_⟩:=jK
 have hst: ∃ y',Tryz.Aa.step x.2 y=some y':=by
  rw [hxs,List.map_append,Tryz.Aa.Ia,hy] at hgo
  simp only [Option.bind_some,List.map_cons,Tryz.Aa.go] at hgo
  cases hs:Tryz.Aa.step x.2 y with
  | none=>rw [hs] at hgo;cases hgo
  | some y'=>exact ⟨y',rfl⟩
 obtain ⟨y',hy'⟩:=hst
 have he:il.enc (S:=En.Dop.D4) (((),(),x.2,()),y.2) 4=([.ptr 2 0,.ptr 3 0,.v (.int .i64 x.2)],o,n):=by
  have h:il.enc (S:=En.Dop.D4) (((),(),x.2,()),y.2) 4=([.ptr 2 0,.ptr 3 0,.v (.int .i64 x.2)],(IE.enc (S:=En.Dop.D4) y 4).2.1,(IE.enc (S:=En.Dop.D4) y 4).2.2):=by kernel_rfl
  rw [h,e1]
 refine TG hE (f0:=3000) (adr:=[1,0,1,0,1,1]) bZ fL (sp:=il) (qe:=IE) (ts:=[2,5,7]) (bn:=4) (by kernel_rfl) (x:=(((),(),x.2,()),y.2)) (y:=y') hy' he e3.base ?_ e4 (e3.inv hkp) hd hsz ?_ (fun _ _ _ h=>h) (fun ⟨_,_,h⟩=>h) ?_ l
 ·simp only [BH,SV.on,and_true]
  omega
 ·intro j t v hj hv
  match j with
  | 0=>
   simp only [List.getElem?_cons_zero,Option.some.injEq] at hj hv;subst hj;subst hv
   exact ⟨by show 2<17;omega,by rw [h2,<- e2 2 (by omega)];simp only [SV.den]⟩
  | 1=>
   simp only [List.getElem?_cons_succ,List.getElem?_cons_zero,Option.some.injEq] at hj hv;subst hj;subst hv
   exact ⟨by show 5<17;omega,by rw [h5,<- e2 3 (by omega)];simp only [SV.den]⟩
  | 2=>
   simp only [List.getElem?_cons_succ,List.getElem?_cons_zero,Option.some.injEq] at hj hv;subst hj;subst hv
   exact ⟨by show 7<17;omega,by rw [h7];simp only [SV.den]⟩
  | j+3=>simp at hj
 ·intro a'' W'' D' β' vs' o' n' f1 f2 f3 f4
  obtain ⟨g1,g2⟩:=Nd.next e3 e2 e5 e6 e7 e8 e9 f1 f2 f3 f4
  refine ⟨g1,y',?_,g2⟩
  rw [List.map_append,Tryz.Aa.Ia,hy]
  simp only [Option.bind_some,List.map_cons,List.map_nil,Tryz.Aa.go,hy']
theorem Yn {w:World} {D:Nat->Prop} {β:Nat->Nm} {o0:List (Nat×En.Own En.Dop.D4)} (hkp:Bq En.Dop.D4 w (AJ o0 β) D) {fn:Func} (hres:fn.results=#[.tmp 4]) {W W':World} {K:Nat->Prop} {β2:Nat->Nm} {yq:En.Spec.D En.Dop.D4 IE} (hβ: ∀ i,i<2->β2 i=β i) (hm:Nd w W (AJ o0 β) D K IE 4 β2 W.heap.size yq W')
  {a:Act} (hd:a.defers=[]) (hsz:a.tmps.size=17) (h2:a.tmps.getD 2 undef=.pointer (some ⟨(β2 2).AQ,0,none⟩)) (h5:a.tmps.getD 5 undef=.pointer (some ⟨(β2 3).AQ,0,none⟩)) (hK:W'.heap[W.heap.size]?=some (.deferred (some []))):
  ik.wpIn Fence.wide 0 Tryz.prog (K1 (bodyPostM Fence.wide 2 Tryz.prog fn (DZ (S:=En.Dop.D4) Tryz.Aa.c ((yq.2.2.2.2.1.1,()),(yq.2.1,yq.2.2.1,())) w D β o0))) { a with defers:={ target:=.collected W.heap.size,args:=#[] }::a.defers } W':=by
 obtain ⟨D',β',vs,o,n,e1,e2,e3,e4,e5,e6,e7,e8,e9⟩:=hm
 obtain ⟨hE,_,_,_⟩:=jK
 refine wpIn_wide.2 ?_
 rw [ba]
 refine wp_seq (wp_region_list ?_)
 have hkp':=e3.keeps hkp
 have ho:o=(IE.enc (S:=En.Dop.D4) yq 4).2.1:=by rw [e1]
 have hn:n=(IE.enc (S:=En.Dop.D4) yq 4).2.2:=by rw [e1]
 have hv:=Jj hE (w0:=W') (F:=AJ o β') (D0:=D') (bn:=4) (β0:=β') (f0:=3000) (k0:=[.ops Vk Vk.toList]) (s0:=⟨[(2,.ptr 2 0),(5,.ptr 3 0)],o,n,17⟩)
  (Q:=fun e a' w'=>match e with
   | .normal=>a'.defers=[]/\a'.tmps.getD 4 undef=.int .i64 yq.2.2.2.2.1.1/\ ∃ D2 β3,(∀ i,i<4->β3 i=β' i)/\GH W' (AJ o β') D' D2 o (· <n) β3 w'
   | _=>False) hkp' (fun _ _ _ _ _ h=>h) e4 rfl (fun z hz=>by
    simp only [List.mem_cons,List.not_mem_nil,or_false] at hz
    subst hz;trivial) (by
   subst ho;subst hn
   rw [bb]
   intro _ _ D2 β3 a' w' hag hg
   refine ⟨hg.defers,by rw [hg.tmps 4 (.v (.int .i64 yq.2.2.2.2.1.1)) rfl];simp only [SV.den],D2,β3,hag,hg.gh⟩)
 have hl:=hv D' β' { a with defers:=[] } W' (fun _ _=>rfl) ⟨rfl,hsz,fun t x hx=>?_,fun t x hx=>?_,e3.base⟩
 ·simp only [List.map_cons,List.map_nil,BS.it,after] at hl
  have hl2:=C7 (ds:=[{ target:=.collected W.heap.size,args:=#[] }]) (Q':=Exit.then (Code.ret.wp Tryz.prog (K1 (bodyPostM Fence.wide 2 Tryz.prog fn (DZ (S:=En.Dop.D4) Tryz.Aa.c ((yq.2.2.2.2.1.1,()),(yq.2.1,yq.2.2.1,())) w D β o0)))) (K1 (bodyPostM Fence.wide 2 Tryz.prog fn (DZ (S:=En.Dop.D4) Tryz.Aa.c ((yq.2.2.2.2.1.1,()),(yq.2.1,yq.2.2.1,())) w D β o0)))) ?_ (fun _ _ _ h=>h.elim) (fun ⟨_,_,h⟩=>h) hl
  ·rw [hd];exact hl2
  ·rintro a' w' ⟨hd',hr,D2,β3,hag,hgh⟩
   refine wp_ret ?_
   obtain ⟨g1,g2⟩:=Nd.next e3 e2 e5 e6 e7 e8 e9 e1 hag hgh e4
   have hK':=(g1 W.heap.size (.inl rfl)).trans hK
   show LeavesInM _ _ _ _ _ _ _ _ _
   rw [hd']
   refine ⟨by simp,.inl ⟨_,_,rfl,run_takeDeferred hK',?_⟩⟩
   refine ⟨.int .i64 yq.2.2.2.2.1.1,by rw [<-hr];exact results_tmp hres _ _ _,?_⟩
   obtain ⟨D4,β4,vs4,o4,n4,f1,f2,f3,f4,_⟩:=g2.UC (.deferred none)
   rcases he:En.Spec.enc (S:=En.Dop.D4) ⟨[.fd (.int .i64)],[CK.b0,CT.b1]⟩ ((yq.2.2.2.2.1.1,()),(yq.2.1,yq.2.2.1,())) 2 with ⟨rs,o5,n5⟩
   have ho4:o4=(IE.enc (S:=En.Dop.D4) yq 4).2.1:=by rw [f1]
   obtain ⟨ps,hps,hm0,hm1⟩:=bc yq
   rw [<-ho4] at hps
   obtain ⟨β5,b1,b2,b3,b4,b5,_⟩:=En.Spec.Bw f3 hps (by kernel_rfl) he
   have hrs:rs=[.v (.int .i64 yq.2.2.2.2.1.1)]:=by
    have h:En.Spec.enc (S:=En.Dop.D4) ⟨[.fd (.int .i64)],[CK.b0,CT.b1]⟩ ((yq.2.2.2.2.1.1,()),(yq.2.1,yq.2.2.1,())) 2=([.v (.int .i64 yq.2.2.2.2.1.1)],(En.Spec.enc (S:=En.Dop.D4) ⟨[.fd (.int .i64)],[CK.b0,CT.b1]⟩ ((yq.2.2.2.2.1.1,()),(yq.2.1,yq.2.2.1,())) 2).2.1,(En.Spec.enc (S:=En.Dop.D4) ⟨[.fd (.int .i64)],[CK.b0,CT.b1]⟩ ((yq.2.2.2.2.1.1,()),(yq.2.1,yq.2.2.1,())) 2).2.2):=by kernel_rfl
    rw [he] at h
    exact (Prod.mk.inj h).1
   refine ⟨_,β5,rs,o5,n5,he,?_,fun i hi=>?_,b2,b4,b5⟩
   ·rw [hrs];simp only [Ap,SV.den]
   ·have hi2:i<2:=hi
    have hmi:lk ps.m i=some i:=by
     match i,hi2 with
     | 0,_=>exact hm0
     | 1,_=>exact hm1
    rw [b1 i hi2 i hmi,f2 i (by omega),hβ i hi2]
 all_goals
  simp only [AI] at hx
  split at hx
  ·rename_i he;subst he;cases hx
   first
    | (refine ⟨by show 2<17;omega,?_⟩;simp only [SV.on];omega)
    | (rw [show ({ a with defers:=[] }:Act).tmps.getD 2 undef=a.tmps.getD 2 undef from rfl,h2,<- e2 2 (by omega)];simp only [SV.den])
  ·split at hx
   ·rename_i he;subst he;cases hx
    first
     | (refine ⟨by show 5<17;omega,?_⟩;simp only [SV.on];omega)
     | (rw [show ({ a with defers:=[] }:Act).tmps.getD 5 undef=a.tmps.getD 5 undef from rfl,h5,<- e2 3 (by omega)];simp only [SV.den])
   ·simp [AO] at hx
theorem P8 (args:Array Value) (w:World):(callFunc 146 args).run Tryz.prog w=.ok (.enter 146 args) w:=Cc (by kernel_rfl)
theorem Tryz.Aa.holds:Tryz.Aa.c.Holds Tryz.prog:=by
 obtain ⟨hE,hbod,hokB,fn,hf,hb,hn',hres⟩:=jK
 refine ⟨hbod,hokB,fun h=>(by cases h),fun x y hxy w D β vs o n he hg hon hn hiv=>?_⟩
 have hxy:Tryz.Aa.R x=some y:=hxy
 unfold Tryz.Aa.R at hxy
 split at hxy
 case h_2=>cases hxy
 rename_i hl
 have hl:=of_decide_eq_true hl
 obtain ⟨yq,hgo,hy⟩:=Option.bind_eq_some_iff.1 hxy
 cases hy
 have hkp:Bq En.Dop.D4 w (AJ o β) D:=⟨hiv,fun k hk=>⟨hg.Cy k hk,fun ⟨i,b,hi,hik⟩=>hg.off i b k hi hik hk⟩⟩
 have hx:x=(((),x.1.2.1,()),x.2):=rfl
 have he':En.Spec.enc (S:=En.Dop.D4) ⟨[.al 0 0,.fd (.sl 0)],[CK.b0,CT.b1]⟩ (((),x.1.2.1,()),x.2) 2=(vs,o,n):=he
 have hlen:vs.length=2:=En.Spec.AZ he
 refine VC.R7 (M:=0+3000) (bn:=2) hf hb hn' (by omega) hon hg ?_
 refine Jj hE hkp (fun _ _ _ _ _ h=>h) (k0:=[.code [] (AR Tryz.prog 136)]) (s0:=⟨BY 0 vs,o,n,17⟩) hn rfl (fun z hz=>by
  simp only [List.mem_cons,List.not_mem_nil,or_false] at hz
  subst hz;rfl) ?_
 rw [Tryz.Aa.part x.1.2.1 ((),x.2) vs o n he']
 intro _ _ D1 β1 a W hβ1 hg1
 simp only [List.map_cons,List.map_nil,BS.it,after]
 obtain ⟨ps,hps,hp7,hpbl,hm1,hm2,hm0,hm01⟩:=Vl x.1.2.1 ((),x.2)
 rcases hq:IE.enc (S:=En.Dop.D4) ((),(x.2.1,x.2.2.1,((),()),(-1,()),())) 4 with ⟨vq,o2,n2⟩
 have he2:En.Spec.enc (S:=En.Dop.D4) ⟨[.al 2 0,.al 3 0],IE.bx⟩ (((),(),()),(x.2.1,x.2.2.1,((),()),(-1,()),())) 4=([.ptr 2 0,.ptr 3 0],o2,n2):=by
  have h:En.Spec.enc (S:=En.Dop.D4) ⟨[.al 2 0,.al 3 0],IE.bx⟩ (((),(),()),(x.2.1,x.2.2.1,((),()),(-1,()),())) 4=([.ptr 2 0,.ptr 3 0],(IE.enc (S:=En.Dop.D4) ((),(x.2.1,x.2.2.1,((),()),(-1,()),())) 4).2.1,(IE.enc (S:=En.Dop.D4) ((),(x.2.1,x.2.2.1,((),()),(-1,()),())) 4).2.2):=by kernel_rfl
  rw [h,hq]
 obtain ⟨β2,b1,b2,_,_,b5,b6,b7,_,_⟩:=En.Spec.Bw hg1.gh hps (by kernel_rfl) he2
 have r1:=b1 2 (by omega) 17 hm1
 have r2:=b1 3 (by omega) 18 hm2
 have r0:=b1 0 (by omega) 0 hm0
 have eo:=b1 1 (by omega) 1 hm01
 obtain ⟨Bs,hBs,hBh⟩:=hg1.gh.own 19 _ (show lk (eZ x.1.2.1 ((),x.2)).o 19=some (.AQ 66 [.h 2]) from rfl)
 obtain ⟨_,hrow⟩:=hg1.gh.own 2 _ (show lk (eZ x.1.2.1 ((),x.2)).o 2=some (.sl 0 x.1.2.1) by kernel_rfl)
 have At:(β1 19).AQ=Bs:=by unfold Nm.AQ;rw [hBs];rfl
 have hBs':Bs<W.heap.size:=(Array.getElem?_eq_some_iff.1 hBh).1
 have hgd:=b2.fD (r:=Bs) (fun i b hi hk=>b6 19 _ i b Bs hp7 (by rw [hpbl];simp) hi (Nm.Ee hBs) hk) hBs' (hg1.gh.fresh 19 _ Bs (show lk (eZ x.1.2.1 ((),x.2)).o 19=some (.AQ 66 [.h 2]) from rfl) (Nm.Ee hBs))
 have hrd: ∀ W':World,(∀ k,(E0 D1 β1 ps.bl k\/k=Bs)->W'.heap[k]?=W.heap[k]?)->au Bs x.1.2.1 W':=fun W' hs=>by
  have hc:W'.cell? ⟨Bs,0,none⟩=some ((β1 2).sl):=by
   rw [World.cell?_of_block (w:=W) (hs Bs (.inr rfl))]
   unfold World.cell?
   rw [hBh]
   simp [AA,SV.den]
  rcases Q4 hrow with ⟨h1,a',c,h2⟩|⟨b,off,cap,h2,h3,h4⟩
  ·exact .inl ⟨h1,a',c,by rw [hc,h2]⟩
  ·exact .inr ⟨b,off,cap,by rw [hc,h2],fun j hj=>by rw [World.cell?_of_block (w:=W) (hs b (.inl (.inl h3)))];exact h4 j hj⟩
 have t2:a.tmps.getD 2 undef=.pointer (some ⟨(β2 2).AQ,0,none⟩):=by rw [hg1.tmps 2 (.ptr 17 0) rfl,r1];simp only [SV.den]
 have t5:a.tmps.getD 5 undef=.pointer (some ⟨(β2 3).AQ,0,none⟩):=by rw [hg1.tmps 5 (.ptr 18 0) rfl,r2];simp only [SV.den]
 have hsz:a.tmps.size=17:=hg1.size
 have hgo':Tryz.Aa.go ((bwd x.1.2.1).map Prod.snd) ((),(x.2.1,x.2.2.1,((),()),(-1,()),()))=some yq:=by rw [TH];exact hgo
 refine wpIn_wide.2 (wpIn_wide.1 (KL (gf:=146) (lb:=#[.pointer (some ⟨Bs,0,none⟩)]) ?_ P8 (Tryz.TC Bs x.1.2.1 hl) (fun _=>rfl)
  (jL w W (AJ o β) D (fun k=>E0 D1 β1 ps.bl k\/k=Bs) β2 ((),(x.2.1,x.2.2.1,((),()),(-1,()),()))) (fun _ _ _=>False) (fun pre W' ob ⟨y,h1,h2⟩ hlt=>⟨y,h1,Nd.YG y W' ob h2 hlt⟩) (fun _ _ _ _ h _=>h)
  (fun pre W' ⟨_,_,_,_,_,_,_,_,_,_,_,_,_,_,_,h9⟩=>hrd W' h9) (fun ob ob'=>⟨_,rfl,Nd.first hq hgd b5 (fun _ h=>h) ob ob'⟩)
  (fun x' a'=>a'.defers=[]/\a'.tmps.size=17/\a'.tmps.getD 2 undef=.pointer (some ⟨(β2 2).AQ,0,none⟩)/\a'.tmps.getD 5 undef=.pointer (some ⟨(β2 3).AQ,0,none⟩)/\a'.tmps.getD 7 undef=.int .i64 x'.2) ?_ ?_ ?_ ?_))
 ·rw [show a.eval (.tmp 9)=a.tmps.getD 9 undef from rfl,hg1.tmps 9 (.fn 146 [.ptr 19 0]) rfl]
  simp only [SV.den,AA,ED (show Nat.ble 1000000 146=false from rfl),At]
 ·intro l x' W' K hK
  exact UQ hsz fun a' h1 h2 h3 h4=>hK a' ⟨h1,h2,by rw [h3 2 (by decide) (by decide) (by decide)];exact t2,by rw [h3 5 (by decide) (by decide) (by decide)];exact t5,h4⟩
 ·rintro pre x' rest a' W' hxs _ hI ⟨h1,h2,h3,h4,h5⟩
  exact Ym hkp hgo' hxs hI h1 h2 h3 h4 h5 _
 ·rintro W' ⟨y,h1,h2⟩ hK
  rw [hgo'] at h1
  cases h1
  simp only [after,Exit.inBlock]
  exact Yn hkp hres (fun i hi=>by
   match i,hi with
   | 0,_=>rw [r0];exact hβ1 0 (by omega)
   | 1,_=>rw [eo];exact hβ1 1 (by omega)) h2 hg1.defers hsz t2 t5 hK
 ·exact fun _ _ _ _ h=>h.elim
end Go.Proofs
