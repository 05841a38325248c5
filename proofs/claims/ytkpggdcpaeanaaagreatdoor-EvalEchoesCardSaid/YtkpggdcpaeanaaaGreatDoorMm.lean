/- What the boxes of some types hold: as one, with names of the parts. Written by a program. -/
import Derived.Test.YtkpggdcpaeanaaaGreatDoorMj
set_option linter.all false
namespace Go.Proofs
open Go Go.En
abbrev CK:Type:=En.Dop.Fy×Unit×List (Int)×List (En.Dop.DR)×List (En.Dop.Ni)×Int×List (En.Dop.AR)×List (List (List UInt8×En.Dop.B6))×List (List UInt8×En.Dop.Of)×List (List UInt8×Int)×En.Dop.DR×Int×List (List UInt8×Int)×List (List UInt8×Int)×Int×List (List (Int×Int))×Int×Int×Int×Unit
abbrev CK.t (k:CK):En.Dop.Fy:=k.1
abbrev CK.jJ (k:CK) (v:En.Dop.Fy):CK:=(v,k.2)
abbrev CK.num (k:CK):List (Int):=k.2.2.1
abbrev CK.NU (k:CK) (v:List (Int)):CK:=(k.1,k.2.1,v,k.2.2.2)
abbrev CK.funcs (k:CK):List (En.Dop.DR):=k.2.2.2.1
abbrev CK.Js (k:CK) (v:List (En.Dop.DR)):CK:=(k.1,k.2.1,k.2.2.1,v,k.2.2.2.2)
abbrev CK.globals (k:CK):List (En.Dop.Ni):=k.2.2.2.2.1
abbrev CK.FL (k:CK) (v:List (En.Dop.Ni)):CK:=(k.1,k.2.1,k.2.2.1,k.2.2.2.1,v,k.2.2.2.2.2)
abbrev CK.top (k:CK):Int:=k.2.2.2.2.2.1
abbrev CK.OT (k:CK) (v:Int):CK:=(k.1,k.2.1,k.2.2.1,k.2.2.2.1,k.2.2.2.2.1,v,k.2.2.2.2.2.2)
abbrev CK.nodes (k:CK):List (En.Dop.AR):=k.2.2.2.2.2.2.1
abbrev CK.E9 (k:CK) (v:List (En.Dop.AR)):CK:=(k.1,k.2.1,k.2.2.1,k.2.2.2.1,k.2.2.2.2.1,k.2.2.2.2.2.1,v,k.2.2.2.2.2.2.2)
abbrev CK.names (k:CK):List (List (List UInt8×En.Dop.B6)):=k.2.2.2.2.2.2.2.1
abbrev CK.B8 (k:CK) (v:List (List (List UInt8×En.Dop.B6))):CK:=(k.1,k.2.1,k.2.2.1,k.2.2.2.1,k.2.2.2.2.1,k.2.2.2.2.2.1,k.2.2.2.2.2.2.1,v,k.2.2.2.2.2.2.2.2)
abbrev CK.sigs (k:CK):List (List UInt8×En.Dop.Of):=k.2.2.2.2.2.2.2.2.1
abbrev CK.I6 (k:CK) (v:List (List UInt8×En.Dop.Of)):CK:=(k.1,k.2.1,k.2.2.1,k.2.2.2.1,k.2.2.2.2.1,k.2.2.2.2.2.1,k.2.2.2.2.2.2.1,k.2.2.2.2.2.2.2.1,v,k.2.2.2.2.2.2.2.2.2)
abbrev CK.taken (k:CK):List (List UInt8×Int):=k.2.2.2.2.2.2.2.2.2.1
abbrev CK.Zr (k:CK) (v:List (List UInt8×Int)):CK:=(k.1,k.2.1,k.2.2.1,k.2.2.2.1,k.2.2.2.2.1,k.2.2.2.2.2.1,k.2.2.2.2.2.2.1,k.2.2.2.2.2.2.2.1,k.2.2.2.2.2.2.2.2.1,v,k.2.2.2.2.2.2.2.2.2.2)
abbrev CK.f (k:CK):En.Dop.DR:=k.2.2.2.2.2.2.2.2.2.2.1
abbrev CK.X9 (k:CK) (v:En.Dop.DR):CK:=(k.1,k.2.1,k.2.2.1,k.2.2.2.1,k.2.2.2.2.1,k.2.2.2.2.2.1,k.2.2.2.2.2.2.1,k.2.2.2.2.2.2.2.1,k.2.2.2.2.2.2.2.2.1,k.2.2.2.2.2.2.2.2.2.1,v,k.2.2.2.2.2.2.2.2.2.2.2)
abbrev CK.BX (k:CK):Int:=k.2.2.2.2.2.2.2.2.2.2.2.1
abbrev CK.L1 (k:CK) (v:Int):CK:=(k.1,k.2.1,k.2.2.1,k.2.2.2.1,k.2.2.2.2.1,k.2.2.2.2.2.1,k.2.2.2.2.2.2.1,k.2.2.2.2.2.2.2.1,k.2.2.2.2.2.2.2.2.1,k.2.2.2.2.2.2.2.2.2.1,k.2.2.2.2.2.2.2.2.2.2.1,v,k.2.2.2.2.2.2.2.2.2.2.2.2)
abbrev CK.labels (k:CK):List (List UInt8×Int):=k.2.2.2.2.2.2.2.2.2.2.2.2.1
abbrev CK.RF (k:CK) (v:List (List UInt8×Int)):CK:=(k.1,k.2.1,k.2.2.1,k.2.2.2.1,k.2.2.2.2.1,k.2.2.2.2.2.1,k.2.2.2.2.2.2.1,k.2.2.2.2.2.2.2.1,k.2.2.2.2.2.2.2.2.1,k.2.2.2.2.2.2.2.2.2.1,k.2.2.2.2.2.2.2.2.2.2.1,k.2.2.2.2.2.2.2.2.2.2.2.1,v,k.2.2.2.2.2.2.2.2.2.2.2.2.2)
abbrev CK.gotos (k:CK):List (List UInt8×Int):=k.2.2.2.2.2.2.2.2.2.2.2.2.2.1
abbrev CK.Zq (k:CK) (v:List (List UInt8×Int)):CK:=(k.1,k.2.1,k.2.2.1,k.2.2.2.1,k.2.2.2.2.1,k.2.2.2.2.2.1,k.2.2.2.2.2.2.1,k.2.2.2.2.2.2.2.1,k.2.2.2.2.2.2.2.2.1,k.2.2.2.2.2.2.2.2.2.1,k.2.2.2.2.2.2.2.2.2.2.1,k.2.2.2.2.2.2.2.2.2.2.2.1,k.2.2.2.2.2.2.2.2.2.2.2.2.1,v,k.2.2.2.2.2.2.2.2.2.2.2.2.2.2)
abbrev CK.loops (k:CK):Int:=k.2.2.2.2.2.2.2.2.2.2.2.2.2.2.1
abbrev CK.ID (k:CK) (v:Int):CK:=(k.1,k.2.1,k.2.2.1,k.2.2.2.1,k.2.2.2.2.1,k.2.2.2.2.2.1,k.2.2.2.2.2.2.1,k.2.2.2.2.2.2.2.1,k.2.2.2.2.2.2.2.2.1,k.2.2.2.2.2.2.2.2.2.1,k.2.2.2.2.2.2.2.2.2.2.1,k.2.2.2.2.2.2.2.2.2.2.2.1,k.2.2.2.2.2.2.2.2.2.2.2.2.1,k.2.2.2.2.2.2.2.2.2.2.2.2.2.1,v,k.2.2.2.2.2.2.2.2.2.2.2.2.2.2.2)
abbrev CK.BE (k:CK):List (List (Int×Int)):=k.2.2.2.2.2.2.2.2.2.2.2.2.2.2.2.1
abbrev CK.HC (k:CK) (v:List (List (Int×Int))):CK:=(k.1,k.2.1,k.2.2.1,k.2.2.2.1,k.2.2.2.2.1,k.2.2.2.2.2.1,k.2.2.2.2.2.2.1,k.2.2.2.2.2.2.2.1,k.2.2.2.2.2.2.2.2.1,k.2.2.2.2.2.2.2.2.2.1,k.2.2.2.2.2.2.2.2.2.2.1,k.2.2.2.2.2.2.2.2.2.2.2.1,k.2.2.2.2.2.2.2.2.2.2.2.2.1,k.2.2.2.2.2.2.2.2.2.2.2.2.2.1,k.2.2.2.2.2.2.2.2.2.2.2.2.2.2.1,v,k.2.2.2.2.2.2.2.2.2.2.2.2.2.2.2.2)
abbrev CK.Gh (k:CK):Int:=k.2.2.2.2.2.2.2.2.2.2.2.2.2.2.2.2.1
abbrev CK.K0 (k:CK) (v:Int):CK:=(k.1,k.2.1,k.2.2.1,k.2.2.2.1,k.2.2.2.2.1,k.2.2.2.2.2.1,k.2.2.2.2.2.2.1,k.2.2.2.2.2.2.2.1,k.2.2.2.2.2.2.2.2.1,k.2.2.2.2.2.2.2.2.2.1,k.2.2.2.2.2.2.2.2.2.2.1,k.2.2.2.2.2.2.2.2.2.2.2.1,k.2.2.2.2.2.2.2.2.2.2.2.2.1,k.2.2.2.2.2.2.2.2.2.2.2.2.2.1,k.2.2.2.2.2.2.2.2.2.2.2.2.2.2.1,k.2.2.2.2.2.2.2.2.2.2.2.2.2.2.2.1,v,k.2.2.2.2.2.2.2.2.2.2.2.2.2.2.2.2.2)
abbrev CK.e (k:CK):Int:=k.2.2.2.2.2.2.2.2.2.2.2.2.2.2.2.2.2.1
abbrev CK.X8 (k:CK) (v:Int):CK:=(k.1,k.2.1,k.2.2.1,k.2.2.2.1,k.2.2.2.2.1,k.2.2.2.2.2.1,k.2.2.2.2.2.2.1,k.2.2.2.2.2.2.2.1,k.2.2.2.2.2.2.2.2.1,k.2.2.2.2.2.2.2.2.2.1,k.2.2.2.2.2.2.2.2.2.2.1,k.2.2.2.2.2.2.2.2.2.2.2.1,k.2.2.2.2.2.2.2.2.2.2.2.2.1,k.2.2.2.2.2.2.2.2.2.2.2.2.2.1,k.2.2.2.2.2.2.2.2.2.2.2.2.2.2.1,k.2.2.2.2.2.2.2.2.2.2.2.2.2.2.2.1,k.2.2.2.2.2.2.2.2.2.2.2.2.2.2.2.2.1,v,k.2.2.2.2.2.2.2.2.2.2.2.2.2.2.2.2.2.2)
abbrev CK.when (k:CK):Int:=k.2.2.2.2.2.2.2.2.2.2.2.2.2.2.2.2.2.2.1
abbrev CK.FY (k:CK) (v:Int):CK:=(k.1,k.2.1,k.2.2.1,k.2.2.2.1,k.2.2.2.2.1,k.2.2.2.2.2.1,k.2.2.2.2.2.2.1,k.2.2.2.2.2.2.2.1,k.2.2.2.2.2.2.2.2.1,k.2.2.2.2.2.2.2.2.2.1,k.2.2.2.2.2.2.2.2.2.2.1,k.2.2.2.2.2.2.2.2.2.2.2.1,k.2.2.2.2.2.2.2.2.2.2.2.2.1,k.2.2.2.2.2.2.2.2.2.2.2.2.2.1,k.2.2.2.2.2.2.2.2.2.2.2.2.2.2.1,k.2.2.2.2.2.2.2.2.2.2.2.2.2.2.2.1,k.2.2.2.2.2.2.2.2.2.2.2.2.2.2.2.2.1,k.2.2.2.2.2.2.2.2.2.2.2.2.2.2.2.2.2.1,v,k.2.2.2.2.2.2.2.2.2.2.2.2.2.2.2.2.2.2.2)
abbrev CK.b0:En.Ge:=⟨0,135,[.st 7,.al 1 0,.own 0 3,.own 11 52,.own 12 32,.st 0,.own 5 56,.mr (.str) 9 true 129,.mp (.str) 15 true,.mp (.str) 0 false,.st 11,.st 0,.mp (.str) 0 false,.mp (.str) 0 false,.st 0,.mr (.int .i64) 0 false 217,.st 0,.fd (.int .i64),.st 0],false⟩
abbrev CK.b1:En.Ge:=⟨1,135,[.st 7,.al 2 0,.own 0 3,.own 11 52,.own 12 32,.st 0,.own 5 56,.mr (.str) 9 true 129,.mp (.str) 15 true,.mp (.str) 0 false,.st 11,.st 0,.mp (.str) 0 false,.mp (.str) 0 false,.st 0,.mr (.int .i64) 0 false 217,.st 0,.fd (.int .i64),.st 0],false⟩
abbrev CT:Type:=List (En.Dop.HN)×List (List UInt8×List (En.Dop.No))×Unit
abbrev CT.l (k:CT):List (En.Dop.HN):=k.1
abbrev CT.kk (k:CT) (v:List (En.Dop.HN)):CT:=(v,k.2)
abbrev CT.fields (k:CT):List (List UInt8×List (En.Dop.No)):=k.2.1
abbrev CT.YA (k:CT) (v:List (List UInt8×List (En.Dop.No))):CT:=(k.1,v,k.2.2)
abbrev CT.b0:En.Ge:=⟨0,168,[.own 6 93,.mp (.str) 17 false],false⟩
abbrev CT.b1:En.Ge:=⟨1,168,[.own 6 93,.mp (.str) 17 false],false⟩
abbrev CT.b2:En.Ge:=⟨2,168,[.own 6 93,.mp (.str) 17 false],false⟩
end Go.Proofs
/- Functions of the seat, lifted: plan, model, contract, equations. Written by a program (Lift) that ran the layer's evaluation; Lean checks each line. -/
set_option maxRecDepth 100000
set_option maxHeartbeats 4000000
namespace Go.Proofs.Tryz
open Go Go.En
def Ex.p:Ai:=⟨[],1,⟨[.al 0 0,.fd (.int .i64)],[CT.b0]⟩,⟨[.st 6,.fd .bool],[CT.b0]⟩,false,[],[]⟩
theorem Ex.ok:AG Dop.D4 prog 163 Ex.p=true:=by kernel_rfl
def Iu.p:Ai:=⟨[],1,⟨[.al 0 0,.st 6],[CT.b0]⟩,⟨[.fd (.int .i64),.fd (.int .i64)],[CT.b0]⟩,false,[(1,⟨[(0,true),(1,true),(2,true),(3,false),(4,false),(5,false),(6,true)],[],[0,1,3,7,0,31,63],true⟩),(6,⟨[(0,true),(1,true),(2,true),(3,true),(4,false),(5,false),(6,false)],[7,8,9,10],[0,0,2,6,14,0,32,126,255,511,1023],false⟩)],[]⟩
theorem Iu.ok:AG Dop.D4 prog 193 Iu.p=true:=by kernel_rfl
def Ip.p:Ai:=⟨[],1,⟨[.al 0 0,.fd (.int .i64)],[CT.b0]⟩,⟨[.fd (.int .i64),.fd (.int .i64)],[CT.b0]⟩,false,[],[]⟩
theorem Ip.ok:AG Dop.D4 prog 159 Ip.p=true:=by kernel_rfl
abbrev Be.UA:Cut:=⟨[[0,0,0,0,1,0,1,0,1,1,1,1,1,0,0,1,1],[0,1,0,0,1,0,1,0,1,1,1,1,1,0,0,1,1],[2,0,0,1,0,1,0,1,1,1,1,1,0,0,1,1],[1,1],[0,1,1,0,1,1,1,1,1,0,0,1,1],[1,0],[0,1,1,1]],[0,10,54,55,56],1,⟨[.al 0 0,.fd (.int .i64),.fd (.sl 16),.fd (.int .i64),.fd (.int .i64)],[CT.b0]⟩⟩
def Be.p:Ai:=⟨[(10,Be.UA)],1,⟨[.al 0 0,.fd (.int .i64)],[CT.b0]⟩,⟨[.fd (.int .i64),.fd .bool],[CT.b0]⟩,false,[(9,⟨[(0,true),(1,true),(2,true),(3,false),(4,true),(5,false),(6,false),(7,false),(8,true)],[],[0,1,3,7,0,16,63,127,0],false⟩)],[]⟩
theorem Be.ok:AG Dop.D4 prog 124 Be.p=true:=by kernel_rfl
abbrev F3.T:Type:=(((Unit×Int×Unit)×(CT×Unit))->Option ((Int×Bool×Unit)×(CT×Unit)))×Unit
def KO.p:Ai:=⟨[],1,⟨[.al 0 0,.fd (.int .i64),.fd (.int .i64)],[CT.b0]⟩,⟨[.fd (.int .i64),.fd (.int .i64)],[CT.b0]⟩,false,[],[]⟩
theorem KO.ok:AG Dop.D4 prog 160 KO.p=true:=by kernel_rfl
def Iq.p:Ai:=⟨[],1,⟨[.al 0 0,.fd .str],[CT.b0]⟩,⟨[.fd (.int .i64),.fd (.int .i64)],[CT.b0]⟩,false,[],[]⟩
theorem Iq.ok:AG Dop.D4 prog 161 Iq.p=true:=by kernel_rfl
def DY.p:Ai:=⟨[],1,⟨[.al 0 0,.fd (.int .i64)],[CT.b0]⟩,⟨[.fd .bool],[CT.b0]⟩,false,[],[]⟩
theorem DY.ok:AG Dop.D4 prog 128 DY.p=true:=by kernel_rfl
abbrev D5.q6:Cut:=⟨[[0,0,0,0,1,0,1,1,1,1],[0,1,0,0,1,0,1,1,1,1],[2,0,0,1,0,1,1,1,1],[1,0],[0,1,1,1,1,1]],[0,2,11,35,36,37],1,⟨[.al 0 0,.fd .str,.fd (.int .i64),.fd (.sl 16),.fd (.int .i64),.fd (.int .i64)],[CT.b0]⟩⟩
def D5.p:Ai:=⟨[(6,D5.q6)],1,⟨[.al 0 0,.fd (.int .i64),.fd .str],[CT.b0]⟩,⟨[.fd (.int .i64),.fd (.int .i64),.fd .bool],[CT.b0]⟩,false,[(5,⟨[(0,true),(1,true),(2,true),(3,false),(4,true),(5,false),(6,false),(7,false),(8,true)],[],[0,1,3,7,0,16,63,127,0],false⟩),(9,⟨[(0,true),(1,true),(2,false),(3,true),(4,true),(5,true)],[],[0,0,2,1,15,31],false⟩)],[]⟩
theorem D5.ok:AG Dop.D4 prog 248 D5.p=true:=by kernel_rfl
def Nj.p:Ai:=⟨[],2,⟨[.al 0 0,.fd (.int .i64)],[CK.b0,CT.b1]⟩,⟨[.st 5],[CK.b0,CT.b1]⟩,false,[],[]⟩
theorem Nj.ok:AG Dop.D4 prog 74 Nj.p=true:=by kernel_rfl
def Ag.p:Ai:=⟨[],2,⟨[.al 0 0,.fd (.int .i64),.fd (.int .i64)],[CK.b0,CT.b1]⟩,⟨[.st 10],[CK.b0,CT.b1]⟩,false,[],[]⟩
theorem Ag.ok:AG Dop.D4 prog 123 Ag.p=true:=by kernel_rfl
def Co.p:Ai:=⟨[],2,⟨[.al 0 0,.fd (.int .i64)],[CK.b0,CT.b1]⟩,⟨[.fd (.int .i64)],[CK.b0,CT.b1]⟩,false,[],[]⟩
theorem Co.ok:AG Dop.D4 prog 127 Co.p=true:=by kernel_rfl
def Dp.p:Ai:=⟨[],2,⟨[.al 0 0,.fd (.int .i64)],[CK.b0,CT.b1]⟩,⟨[.fd .bool],[CK.b0,CT.b1]⟩,false,[],[]⟩
theorem Dp.ok:AG Dop.D4 prog 125 Dp.p=true:=by kernel_rfl
def F5.p:Ai:=⟨[],2,⟨[.al 0 0,.fd (.int .i64)],[CK.b0,CT.b1]⟩,⟨[.fd (.int .i64),.fd (.int .i64)],[CK.b0,CT.b1]⟩,false,[(2,⟨[(0,true),(1,true),(2,true),(3,false),(4,true),(5,false),(6,false),(7,true),(8,true),(9,true),(10,true),(11,true)],[2000000],[0,1,3,7,0,16,63,127,255,255,511,2047],false⟩)],[]⟩
theorem F5.ok:AG Dop.D4 prog 228 F5.p=true:=by kernel_rfl
def Jg.p:Ai:=⟨[],2,⟨[.al 0 0,.fd (.int .i64)],[CK.b0,CT.b1]⟩,⟨[.fd .bool],[CK.b0,CT.b1]⟩,false,[],[]⟩
theorem Jg.ok:AG Dop.D4 prog 242 Jg.p=true:=by kernel_rfl
def Gw.p:Ai:=⟨[],2,⟨[.al 0 0,.fd (.int .i64),.fd (.int .i64)],[CK.b0,CT.b1]⟩,⟨[.fd (.int .i64)],[CK.b0,CT.b1]⟩,false,[],[]⟩
theorem Gw.ok:AG Dop.D4 prog 240 Gw.p=true:=by kernel_rfl
def BZ.p:Ai:=⟨[],2,⟨[.al 0 0,.fd (.int .i64),.fd (.int .i64),.fd (.int .i64),.fd (.int .i64),.fd (.int .i64),.fd .str],[CK.b0,CT.b1]⟩,⟨[.fd (.int .i64)],[CK.b0,CT.b1]⟩,false,[],[]⟩
noncomputable def BZ.E:Env Dop.D4:=BC prog 132 tb [] BZ.p
theorem BZ.ok:AG Dop.D4 prog 132 BZ.p=true:=by kernel_rfl
noncomputable def BZ.c:CC Dop.D4:=⟨132,BZ.p.bn,BZ.p.sp,BZ.p.rs,BZ.p.flat,.opt (BZ.E.run 3000 BZ.p.sp)⟩
theorem BZ.holds:BZ.c.Holds prog:=E4 3000 AH CJ BZ.ok
def Ea.p:Ai:=⟨[],0,⟨[.fd (.int .i64)],[]⟩,⟨[.fd (.int .i64)],[]⟩,true,[],[]⟩
theorem Ea.ok:AG Dop.D4 prog 126 Ea.p=true:=by kernel_rfl
def Em.p:Ai:=⟨[],2,⟨[.al 0 0,.fd (.int .i64)],[CK.b0,CT.b1]⟩,⟨[.fd (.int .i64)],[CK.b0,CT.b1]⟩,false,[],[]⟩
theorem Em.ok:AG Dop.D4 prog 165 Em.p=true:=by kernel_rfl
def EL.p:Ai:=⟨[],2,⟨[.al 0 0,.fd (.int .i64)],[CK.b0,CT.b1]⟩,⟨[.fd (.int .i64)],[CK.b0,CT.b1]⟩,false,[],[]⟩
theorem EL.ok:AG Dop.D4 prog 134 EL.p=true:=by kernel_rfl
def Ir.p:Ai:=⟨[],2,⟨[.al 0 0,.fd (.int .i64)],[CK.b0,CT.b1]⟩,⟨[.fd (.int .i64)],[CK.b0,CT.b1]⟩,false,[],[]⟩
theorem Ir.ok:AG Dop.D4 prog 164 Ir.p=true:=by kernel_rfl
def Iw.p:Ai:=⟨[],2,⟨[.al 0 0,.fd (.int .i64)],[CK.b0,CT.b1]⟩,⟨[.fd (.int .i64)],[CK.b0,CT.b1]⟩,false,[],[]⟩
theorem Iw.ok:AG Dop.D4 prog 238 Iw.p=true:=by kernel_rfl
def KR.p:Ai:=⟨[],2,⟨[.al 0 0,.fd (.int .i64)],[CK.b0,CT.b1]⟩,⟨[.fd (.int .i64)],[CK.b0,CT.b1]⟩,false,[],[]⟩
theorem KR.ok:AG Dop.D4 prog 239 KR.p=true:=by kernel_rfl
def II.p:Ai:=⟨[],2,⟨[.al 0 0,.fd (.int .i64),.fd (.int .i64)],[CK.b0,CT.b1]⟩,⟨[.st 10],[CK.b0,CT.b1]⟩,false,[],[]⟩
theorem II.ok:AG Dop.D4 prog 217 II.p=true:=by kernel_rfl
def Ff.p:Ai:=⟨[],2,⟨[.al 0 0,.st 9],[CK.b0,CT.b1]⟩,⟨[.fd (.int .i64)],[CK.b0,CT.b1]⟩,false,[],[]⟩
theorem Ff.ok:AG Dop.D4 prog 133 Ff.p=true:=by kernel_rfl
def Hf.p:Ai:=⟨[],2,⟨[.al 0 0,.fd (.int .i64),.fd (.int .i64)],[CK.b0,CT.b1]⟩,⟨[.fd (.int .i64)],[CK.b0,CT.b1]⟩,false,[],[]⟩
theorem Hf.ok:AG Dop.D4 prog 229 Hf.p=true:=by kernel_rfl
def Hg.p:Ai:=⟨[],2,⟨[.al 0 0,.fd (.int .i64),.fd (.int .i64)],[CK.b0,CT.b1]⟩,⟨[.fd (.int .i64)],[CK.b0,CT.b1]⟩,false,[],[]⟩
theorem Hg.ok:AG Dop.D4 prog 230 Hg.p=true:=by kernel_rfl
def Bp.p:Ai:=⟨[],2,⟨[.al 0 0,.fd (.int .i64),.fd (.int .i64),.fd (.int .i64),.fd (.int .i64),.fd (.int .i64),.fd (.int .i64),.fd .str],[CK.b0,CT.b1]⟩,⟨[.fd (.int .i64)],[CK.b0,CT.b1]⟩,false,[],[]⟩
theorem Bp.ok:AG Dop.D4 prog 131 Bp.p=true:=by kernel_rfl
abbrev BN.q7:Cut:=⟨[[0,0,0,1,1,1,1],[0,1,0,1,1,1,1],[0,1,1,1,1,1]],[0,2,3,4,6,11,12,13],3,⟨[.al 0 0,.fd (.int .i64),.fd (.int .i64),.fd .bool,.al 2 0,.fd (.int .i64),.fd (.int .i64),.fd .bool],[CK.b0,CT.b1,⟨2,174,[.st 10],false⟩]⟩⟩
abbrev BN.aV:Cut:=⟨[[0,0,0,1,1,1,1,1,1],[0,1,0,1,1,1,1,1,1],[0,1,1,1,1,1,1,1]],[0,3,6,11,12,13],3,⟨[.al 0 0,.fd (.int .i64),.al 2 0,.fd (.int .i64),.fd (.int .i64),.fd .bool],[CK.b0,CT.b1,⟨2,174,[.st 10],false⟩]⟩⟩
def BN.p:Ai:=⟨[(7,BN.q7),(11,BN.aV)],2,⟨[.al 0 0,.st 10,.fd (.int .i64),.fd (.int .i64),.fd .bool],[CK.b0,CT.b1]⟩,⟨[.fd (.int .i64)],[CK.b0,CT.b1]⟩,false,[(10,⟨[(0,true),(1,true),(2,true),(3,false),(4,true),(5,false),(6,false),(7,true),(8,true),(9,true),(10,true),(11,false),(12,true),(13,false),(14,true),(15,true)],[2000000],[0,1,3,7,0,16,63,127,255,511,1023,2047,255,8191,16383,32767],false⟩)],[]⟩
theorem BN.ok:AG Dop.D4 prog 195 BN.p=true:=by kernel_rfl
def Cj.p:Ai:=⟨[],2,⟨[.al 0 0,.fd (.int .i64),.fd (.int .i64),.fd (.int .i64)],[CK.b0,CT.b1]⟩,⟨[.fd (.int .i64)],[CK.b0,CT.b1]⟩,false,[],[]⟩
theorem Cj.ok:AG Dop.D4 prog 243 Cj.p=true:=by kernel_rfl
def GP.p:Ai:=⟨[],2,⟨[.al 0 0,.fd (.int .i64),.fd (.int .i64)],[CK.b0,CT.b1]⟩,⟨[.fd (.int .i64)],[CK.b0,CT.b1]⟩,false,[],[]⟩
theorem GP.ok:AG Dop.D4 prog 244 GP.p=true:=by kernel_rfl
abbrev C9.q2:Cut:=⟨[[0,0,0,0,0,1,0,1],[0,1,0,0,0,1,0,1],[0,1,0,0,1,0,1],[2,0,0,1,0,1],[1,0],[0,1,1]],[0,1,2,7],2,⟨[.al 0 0,.fd (.int .i64),.fd (.int .i64),.fd (.int .i64)],[CK.b0,CT.b1]⟩⟩
abbrev C9.Xq:Cut:=⟨[[0,0,0,1,1,1,0,0,1,0,0,1,0,1],[0,1,0,1,1,1,0,0,1,0,0,1,0,1],[0,1,1,1,1,0,0,1,0,0,1,0,1],[1,1],[0,1,1,0,0,1,0,1],[2,0,0,1,0,1],[1,0],[0,1,1]],[0,1,2,7,9,10],2,⟨[.al 0 0,.fd (.int .i64),.fd (.int .i64),.fd (.int .i64),.fd (.int .i64),.fd (.int .i64)],[CK.b0,CT.b1]⟩⟩
def C9.p:Ai:=⟨[(2,C9.q2),(13,C9.Xq)],2,⟨[.al 0 0,.fd (.int .i64),.fd (.int .i64)],[CK.b0,CT.b1]⟩,⟨[.fd (.int .i64)],[CK.b0,CT.b1]⟩,false,[(8,⟨[(0,true),(1,true),(2,true),(3,false),(4,true),(5,true),(6,true),(7,false),(8,true),(9,false),(10,false),(11,false),(12,false),(13,true),(14,true),(15,true),(16,true),(17,true)],[2000000],[0,1,3,7,0,16,48,112,0,256,1008,2032,4095,8191,16383,16383,32767,131071],false⟩),(10,⟨[(0,true),(1,true),(2,true),(3,false),(4,true),(5,true),(6,true),(7,false),(8,true),(9,false),(10,false),(11,false),(12,true),(13,false),(14,false),(15,true),(16,true),(17,true),(18,true),(19,true)],[2000000],[0,1,3,7,0,16,48,112,0,256,1008,2032,0,4096,16383,32767,65535,65535,131071,524287],false⟩),(12,⟨[(0,true),(1,true),(2,true),(3,false),(4,true),(5,false),(6,false),(7,true),(8,true),(9,true),(10,true),(11,true)],[2000000],[0,1,3,7,0,16,63,127,255,255,511,2047],false⟩)],[]⟩
theorem C9.ok:AG Dop.D4 prog 121 C9.p=true:=by kernel_rfl
def Iv.p:Ai:=⟨[],2,⟨[.al 0 0,.st 10,.fd (.int .i64)],[CK.b0,CT.b1]⟩,⟨[.st 10],[CK.b0,CT.b1]⟩,false,[],[]⟩
theorem Iv.ok:AG Dop.D4 prog 225 Iv.p=true:=by kernel_rfl
abbrev EM.aV:Cut:=⟨[[0,0,1,1,1,1],[0,1,1,1,1,1]],[0,6,7,8,10,11],6,⟨[.al 0 0,.al 2 0,.al 3 0,.al 4 0,.al 5 0,.fd (.int .i64)],[CK.b0,CT.b1,⟨2,174,[.st 10],false⟩,⟨3,174,[.st 10],false⟩,⟨4,174,[.st 10],false⟩,⟨5,174,[.st 10],false⟩]⟩⟩
def EM.p:Ai:=⟨[(11,EM.aV)],2,⟨[.al 0 0,.st 10,.st 10,.st 10,.fd (.int .i64)],[CK.b0,CT.b1]⟩,⟨[.st 10],[CK.b0,CT.b1]⟩,false,[],[]⟩
theorem EM.ok:AG Dop.D4 prog 224 EM.p=true:=by kernel_rfl
def Eb.p:Ai:=⟨[],2,⟨[.al 0 0,.fd (.int .i64),.fd (.int .i64)],[CK.b0,CT.b1]⟩,⟨[.fd (.int .i64)],[CK.b0,CT.b1]⟩,false,[],[]⟩
theorem Eb.ok:AG Dop.D4 prog 246 Eb.p=true:=by kernel_rfl
def Df.p:Ai:=⟨[],2,⟨[.al 0 0,.st 10,.fd (.int .i64)],[CK.b0,CT.b1]⟩,⟨[.fd (.int .i64)],[CK.b0,CT.b1]⟩,false,[],[]⟩
theorem Df.ok:AG Dop.D4 prog 196 Df.p=true:=by kernel_rfl
end Go.Proofs.Tryz
/- Functions of the seat, lifted: plan, model, contract, equations. Written by a program (Lift) that ran the layer's evaluation; Lean checks each line. -/
set_option maxRecDepth 100000
set_option maxHeartbeats 4000000
namespace Go.Proofs.Tryz
open Go Go.En
def Mv.p:Ai:=⟨[],0,⟨[],[]⟩,⟨[.mp (.str) 14 true],[]⟩,true,[],[]⟩
theorem Mv.ok:AG Dop.D4 prog 241 Mv.p=true:=by kernel_rfl
def KS.p:Ai:=⟨[],2,⟨[.al 0 0,.st 10,.fd (.int .i64)],[CK.b0,CT.b1]⟩,⟨[.fd (.int .i64),.st 10],[CK.b0,CT.b1]⟩,false,[(2,⟨[(0,false),(1,true)],[2],[0,0,3],false⟩),(6,⟨[(0,true),(1,true),(2,true),(3,true),(4,false),(5,false),(6,true),(7,false),(8,true),(9,true),(10,true)],[11,1000000],[0,0,0,0,12,30,0,64,0,510,63,2047],false⟩)],[]⟩
theorem KS.ok:AG Dop.D4 prog 245 KS.p=true:=by kernel_rfl
end Go.Proofs.Tryz
/- Functions of the seat, lifted: plan, model, contract, equations. Written by a program (Lift) that ran the layer's evaluation; Lean checks each line. -/
set_option maxRecDepth 100000
set_option maxHeartbeats 4000000
namespace Go.Proofs.Tryz
open Go Go.En
abbrev Bl.q4:Cut:=⟨[[0,0,1,1,1],[0,1,1,1,1]],[0,1,4,7,8,10,11,12],5,⟨[.al 0 0,.fd .str,.fd (.int .i64),.al 2 0,.al 3 0,.al 4 0,.fd .bool,.fd .bool],[CK.b0,CT.b1,⟨2,174,[.st 10],false⟩,⟨3,174,[.st 10],false⟩,⟨4,174,[.st 10],false⟩]⟩⟩
abbrev Bl.UA:Cut:=⟨[[0,0,0,0,1,1,1,1,1,1,1,1],[0,1,0,0,1,1,1,1,1,1,1,1],[1,0],[0,1,1,1,1,1,1,1,1,1]],[0,1,4,7,8,10,11,12,13,14,16],6,⟨[.al 0 0,.fd .str,.fd (.int .i64),.al 2 0,.al 3 0,.al 4 0,.fd .bool,.fd .bool,.al 5 0,.fd .bool,.fd (.int .i64)],[CK.b0,CT.b1,⟨2,174,[.st 10],false⟩,⟨3,174,[.st 10],false⟩,⟨4,174,[.st 10],false⟩,⟨5,267,[.st 14],false⟩]⟩⟩
abbrev Bl.Xq:Cut:=⟨[[0,0,0,1,0,1,0,0,1,1,1,1,1,1,1,1],[0,1,0,1,0,1,0,0,1,1,1,1,1,1,1,1],[0,1,1,0,1,0,0,1,1,1,1,1,1,1,1],[1,0],[0,1,1,1,1,1,1,1,1,1]],[0,1,7,8,10,13,16],6,⟨[.al 0 0,.fd .str,.al 2 0,.al 3 0,.al 4 0,.al 5 0,.fd (.int .i64)],[CK.b0,CT.b1,⟨2,174,[.st 10],false⟩,⟨3,174,[.st 10],false⟩,⟨4,174,[.st 10],false⟩,⟨5,267,[.st 14],false⟩]⟩⟩
abbrev Bl.aX:Cut:=⟨[[0,0,1,1,0,0,1,1,1,1,1,1,1,1],[0,1,1,1,0,0,1,1,1,1,1,1,1,1],[1,0],[0,1,1,1,1,1,1,1,1,1]],[0,1,4,7,8,10,11,12,13,16],6,⟨[.al 0 0,.fd .str,.fd (.int .i64),.al 2 0,.al 3 0,.al 4 0,.fd .bool,.fd .bool,.al 5 0,.fd (.int .i64)],[CK.b0,CT.b1,⟨2,174,[.st 10],false⟩,⟨3,174,[.st 10],false⟩,⟨4,174,[.st 10],false⟩,⟨5,267,[.st 14],false⟩]⟩⟩
abbrev Bl.kX:Cut:=⟨[[0,0,0,1,1,1,1,1,1,1,1,1,1],[0,1,0,1,1,1,1,1,1,1,1,1,1],[0,1,1,1,1,1,1,1,1,1,1,1]],[0,1,7,8,10,13,16,24],6,⟨[.al 0 0,.fd .str,.al 2 0,.al 3 0,.al 4 0,.al 5 0,.fd (.int .i64),.fd (.int .i64)],[CK.b0,CT.b1,⟨2,174,[.st 10],false⟩,⟨3,174,[.st 10],false⟩,⟨4,174,[.st 10],false⟩,⟨5,267,[.st 14],false⟩]⟩⟩
def Bl.p:Ai:=⟨[(4,Bl.q4),(10,Bl.UA),(13,Bl.Xq),(16,Bl.aX),(33,Bl.kX)],2,⟨[.al 0 0,.fd .str,.st 10,.st 10,.fd (.int .i64)],[CK.b0,CT.b1]⟩,⟨[.st 10],[CK.b0,CT.b1]⟩,false,[(3,⟨[(0,true),(1,true),(2,false),(3,false),(4,true),(5,true),(6,true),(7,false),(8,false),(9,true),(10,true),(11,true)],[1000000],[0,0,2,7,15,0,0,64,239,495,511,2047],false⟩),(14,⟨[(0,true),(1,true),(2,false),(3,false),(4,true),(5,false),(6,true),(7,false),(8,false),(9,true)],[10,1000000],[0,0,2,6,0,16,0,64,255,511,1023],false⟩),(15,⟨[(0,true),(1,true),(2,false),(3,false),(4,true),(5,false),(6,true),(7,false),(8,false),(9,true)],[10,1000000],[0,0,2,6,0,16,0,64,255,511,1023],false⟩),(29,⟨[(0,true),(1,false),(2,false),(3,true),(4,false),(5,true),(6,true),(7,false),(8,true),(9,false),(10,false),(11,true),(12,false),(13,true)],[14,1000000],[0,0,2,0,8,0,0,64,0,480,1023,0,2048,8191,16383],false⟩),(31,⟨[(0,true),(1,false),(2,false),(3,true),(4,true),(5,false),(6,true),(7,false),(8,true),(9,false),(10,false),(11,true),(12,false),(13,true)],[14,1000000],[0,0,2,0,0,16,0,120,0,256,1023,0,2048,8191,16383],false⟩),(37,⟨[(0,true),(1,true),(2,false),(3,false),(4,true),(5,false),(6,true),(7,false),(8,false),(9,true),(10,true)],[11,1000000],[0,0,2,6,0,16,0,64,255,0,1023,2047],false⟩)],[]⟩
theorem Bl.ok:AG Dop.D4 prog 219 Bl.p=true:=by kernel_rfl
end Go.Proofs.Tryz
/- core.list: a range over slices.Backward, as a contract. -/
set_option maxRecDepth 100000
namespace Go.Proofs
open Go Go.En Go.RowKit
def Tryz.Ab.p:Ai:=⟨[],2,⟨[.al 0 0,.fd (.sl 0)],[CK.b0,CT.b1]⟩,⟨[.fd (.int .i64)],[CK.b0,CT.b1]⟩,false,[],[(99,[])]⟩
noncomputable def Tryz.Ab.E:Env En.Dop.D4:=BC Tryz.prog 136 Tryz.tb [Tryz.BZ.c] Tryz.Ab.p
theorem Tryz.Ab.ok:AG En.Dop.D4 Tryz.prog 136 Tryz.Ab.p=true:=by kernel_rfl
abbrev IM:En.Spec:=⟨[],[CK.b0,CT.b1,⟨2,126,[.al 0 0],false⟩,⟨3,3,[.fd (.int .i64)],false⟩]⟩
abbrev iz:En.Spec:=⟨[.al 2 0,.al 3 0,.fd (.int .i64)],[CK.b0,CT.b1,⟨2,126,[.al 0 0],false⟩,⟨3,3,[.fd (.int .i64)],false⟩]⟩
noncomputable def Tryz.Ab.step (x:Int) (y:En.Spec.D En.Dop.D4 IM):Option (En.Spec.D En.Dop.D4 IM):=
 (TH Tryz.Ab.E 3000 [1,0,1,0,1,1] (BG (AQ Tryz.prog 136) [1,0,1,0,1,1]) iz IM [2,5,7] 4 (((),(),x,()),y.2)).eval (fun _ _=>none)
noncomputable abbrev ix:Code:=BG (AQ Tryz.prog 136) [0,0,1,0,1,1]
noncomputable abbrev jP:Code:=BG (AQ Tryz.prog 136) [1,0,1,0,1,1]
noncomputable abbrev iy:Code:=BG (AQ Tryz.prog 136) [1,1,1]
noncomputable def Tryz.Ab.go:List Int->En.Spec.D En.Dop.D4 IM->Option (En.Spec.D En.Dop.D4 IM)
 | [],y=>some y
 | x::r,y=>(Tryz.Ab.step x y).bind (Tryz.Ab.go r)
theorem Tryz.Ab.Ik: ∀ (l r:List Int) (y:En.Spec.D En.Dop.D4 IM),Tryz.Ab.go (l++r) y=(Tryz.Ab.go l y).bind (Tryz.Ab.go r)
 | [],r,y=>rfl
 | x::l,r,y=>by
  simp only [List.cons_append,Tryz.Ab.go]
  cases Tryz.Ab.step x y with
  | none=>rfl
  | some z=>exact Tryz.Ab.Ik l r z
noncomputable def Tryz.Ab.R (x:En.Spec.D En.Dop.D4 Tryz.Ab.p.sp):Option (En.Spec.D En.Dop.D4 Tryz.Ab.p.rs):=
 match decide (x.1.2.1.length<9223372036854775807) with
 | true=>(Tryz.Ab.go x.1.2.1.reverse ((),(x.2.1,x.2.2.1,((),()),(-1,()),()))).bind fun y=>some ((y.2.2.2.2.1.1,()),(y.2.1,y.2.2.1,()))
 | false=>none
noncomputable def Tryz.Ab.c:CC En.Dop.D4:=⟨136,Tryz.Ab.p.bn,Tryz.Ab.p.sp,Tryz.Ab.p.rs,Tryz.Ab.p.flat,.opt Tryz.Ab.R⟩
noncomputable def eh (l:List Int) (x:En.Spec.D En.Dop.D4 ⟨[],[CK.b0,CT.b1]⟩):St En.Dop.D4:=match En.Spec.enc (S:=En.Dop.D4) ⟨[.al 0 0,.fd (.sl 0)],[CK.b0,CT.b1]⟩ (((),l,()),x.2) 2 with
 | (_,o,_)=>⟨[(0,.ptr 0 0),(1,.h 2),(2,.ptr 17 0),(4,.v (.int .i64 0)),(5,.ptr 18 0),(8,.h 2),(9,.fn 146 [.ptr 19 0])],(19,.AP 66 [.h 2])::(18,.AP 3 [.v (.int .i64 (-1))])::(17,.AP 126 [.ptr 0 0])::o,20,17⟩
theorem Tryz.Ab.part (l:List Int) (x:En.Spec.D En.Dop.D4 ⟨[],[CK.b0,CT.b1]⟩) (vs:List SV) (o:List (Nat×En.Own En.Dop.D4)) (n:Nat) (h:En.Spec.enc (S:=En.Dop.D4) ⟨[.al 0 0,.fd (.sl 0)],[CK.b0,CT.b1]⟩ (((),l,()),x.2) 2=(vs,o,n)):
  OR Tryz.Ab.E 3000 [.code [] (AQ Tryz.prog 136)] ⟨Bj 0 vs,o,n,17⟩=.ret ([.code [0,1,0,1,1] (.rangeFunc (.tmp 9) #[10,11] ix jP),.AP 0,.code [1,1,1] iy],eh l x):=by
 cases h
 kernel_rfl
noncomputable def Vi:Oper:=match ix with
 | .region _ ⟨o::_⟩ _=>o
 | _=>default
theorem bM:ix=.region 3 #[Vi] false:=by kernel_rfl
theorem TM:Vi.op=.assign (.tmp 11):=by kernel_rfl
theorem MG:Vi.dst=some 7:=by kernel_rfl
theorem R4:Vi.guard=none:=by kernel_rfl
noncomputable def Vj:Array Oper:=match iy with
 | .seq (.region _ o _) _=>o
 | _=>#[]
theorem bO:iy=.seq (.region 5 Vj false) .ret:=by kernel_rfl
theorem bN:HL (AQ Tryz.prog 136) [1,0,1,0,1,1]=some jP:=by kernel_rfl
theorem fQ:NA (AQ Tryz.prog 136)=true:=by kernel_rfl
theorem Ub (l:List Int) (x:En.Spec.D En.Dop.D4 ⟨[],[CK.b0,CT.b1]⟩):((En.Spec.parse (S:=En.Dop.D4) ⟨[.al 2 0,.al 3 0],IM.bx⟩ true [.ptr 17 0,.ptr 18 0] (eh l x).o (Qd 2) 4).map fun r=>(r.1,lk r.2.o 19,r.2.bl,lk r.2.m 2,lk r.2.m 3,lk r.2.m 0,lk r.2.m 1))=
  some ((((),(),()),(x.2.1,x.2.2.1,((),()),(-1,()),())),some (.AP 66 [.h 2]),[],some 17,some 18,some 0,some 1):=by kernel_rfl
theorem Vk (l:List Int) (x:En.Spec.D En.Dop.D4 ⟨[],[CK.b0,CT.b1]⟩): ∃ ps,En.Spec.parse (S:=En.Dop.D4) ⟨[.al 2 0,.al 3 0],IM.bx⟩ true [.ptr 17 0,.ptr 18 0] (eh l x).o (Qd 2) 4=some ((((),(),()),(x.2.1,x.2.2.1,((),()),(-1,()),())),ps)/\lk ps.o 19=some (.AP 66 [.h 2])/\ps.bl=[]/\lk ps.m 2=some 17/\lk ps.m 3=some 18/\lk ps.m 0=some 0/\lk ps.m 1=some 1:=by
 obtain ⟨⟨d,ps⟩,h1,h2⟩:=Option.map_eq_some_iff.1 (Ub l x)
 simp only [Prod.mk.injEq] at h2
 obtain ⟨h3,h4,h5,h6,h7,h8,h9⟩:=h2
 exact ⟨ps,h1.trans (by rw [<-h3]),h4,h5,h6,h7,h8,h9⟩
theorem bP (y:En.Spec.D En.Dop.D4 IM):OR Tryz.Ab.E 3000 [.ops Vj Vj.toList] ⟨[(2,.ptr 2 0),(5,.ptr 3 0)],(IM.enc (S:=En.Dop.D4) y 4).2.1,(IM.enc (S:=En.Dop.D4) y 4).2.2,17⟩=
  .ret ([],⟨[(2,.ptr 2 0),(5,.ptr 3 0),(16,.v (.int .i64 y.2.2.2.2.1.1)),(4,.v (.int .i64 y.2.2.2.2.1.1))],(IM.enc (S:=En.Dop.D4) y 4).2.1,(IM.enc (S:=En.Dop.D4) y 4).2.2,17⟩):=by kernel_rfl
theorem bQ (y:En.Spec.D En.Dop.D4 IM): ∃ ps,En.Spec.parse (S:=En.Dop.D4) ⟨[.fd (.int .i64)],[CK.b0,CT.b1]⟩ true [.v (.int .i64 y.2.2.2.2.1.1)] (IM.enc (S:=En.Dop.D4) y 4).2.1 (Qd 2) 2=some (((y.2.2.2.2.1.1,()),(y.2.1,y.2.2.1,())),ps)/\lk ps.m 0=some 0/\lk ps.m 1=some 1:=by
 have h:((En.Spec.parse (S:=En.Dop.D4) ⟨[.fd (.int .i64)],[CK.b0,CT.b1]⟩ true [.v (.int .i64 y.2.2.2.2.1.1)] (IM.enc (S:=En.Dop.D4) y 4).2.1 (Qd 2) 2).map fun r=>(r.1,lk r.2.m 0,lk r.2.m 1))=some (((y.2.2.2.2.1.1,()),(y.2.1,y.2.2.1,())),some 0,some 1):=by kernel_rfl
 obtain ⟨⟨d,ps⟩,h1,h2⟩:=Option.map_eq_some_iff.1 h
 simp only [Prod.mk.injEq] at h2
 obtain ⟨h3,h4,h5⟩:=h2
 exact ⟨ps,h1.trans (by rw [<-h3]),h4,h5⟩
end Go.Proofs
/- core.list: its contract holds. -/
set_option maxRecDepth 100000
namespace Go.Proofs
open Go Go.En Go.RowKit
theorem jQ:(Tryz.Ab.E).Ok Tryz.prog/\Br Tryz.prog 136=true/\Tryz.Ab.p.sp.okB Tryz.Ab.p.bn=true/\ ∃ fn,Tryz.prog.funcs[136]?=some fn/\fn.body=some (AQ Tryz.prog 136)/\fn.ntmps=17/\fn.results=#[.tmp 4]:=by
 obtain ⟨h1,h2,h3,fn,h4,h5,h6,h7⟩:=Gj (p:=Tryz.Ab.p) Tryz.AH (A6 Tryz.BZ.holds CJ) Tryz.Ab.ok
 have e1:Cl Tryz.prog 136=17:=by kernel_rfl
 have e2:EE Tryz.prog 136=[.tmp 4]:=by kernel_rfl
 refine ⟨h1,h2,h3,fn,h4,h5,h6.trans e1,?_⟩
 rw [e2] at h7
 rw [<-h7]
theorem Ua {l:Nat} {x:Int×Int} {W:World} {a:Act} {K:Act->World->Prop} (hsz:a.tmps.size=17)
  (h: ∀ a':Act,a'.defers=[]->a'.tmps.size=17->(∀ t,t≠7->t≠10->t≠11->a'.tmps.getD t undef=a.tmps.getD t undef)->a'.tmps.getD 7 undef=.int .i64 x.2->K a' W):
  ix.wpIn (Fence.wide.inRound l) 0 Tryz.prog (Exit.then K (fun _ _ _=>False)) { tmps:=(#[10,11].zip #[Value.int .i64 x.1,Value.int .i64 x.2]).foldl (fun t (p,v)=>t.setIfInBounds p v) a.tmps,defers:=[] } W:=by
 rw [bM]
 refine FK (.inr ⟨⟨l,rfl⟩,fun ⟨_,_,h⟩=>h,fun j o ho=>?_⟩) ?_
 ·cases j with
  | zero=>simp at ho;subst ho;unfold Ev;rw [TM]
  | succ j=>simp at ho
 ·show wpList _ _ _ [Vi] _ _
  unfold wpList
  rw [if_pos (by simp [Region.wanted,R4])]
  refine .inl (An (v:=.int .i64 x.2) (w':=W) ?_ ?_)
  ·simp [execOp,TM,Act.eval,hsz]
  ·refine h _ rfl (by simp [Act.put,MG,hsz]) (fun t h1 h2 h3=>?_) ?_
   ·simp [Act.put,MG,Array.getD_eq_getD_getElem?,Array.getElem?_setIfInBounds,Ne.symm h1,Ne.symm h2,Ne.symm h3]
   ·simp [Act.put,MG,Array.getD_eq_getD_getElem?,Array.getElem?_setIfInBounds,hsz]
def jR (w0 W:World) (F D0 K:Nat->Prop) (β2:Nat->Nm) (y0:En.Spec.D En.Dop.D4 IM) (pre:List (Int×Int)) (W':World):Prop:=
 ∃ y,Tryz.Ab.go (pre.map Prod.snd) y0=some y/\Nq w0 W F D0 K IM 4 β2 W.heap.size y W'
theorem Yg {w0 W W':World} {F D0 K:Nat->Prop} {β2:Nat->Nm} {y0 yq:En.Spec.D En.Dop.D4 IM} (hkp:Bz En.Dop.D4 w0 F D0) {xs pre rest:List (Int×Int)} {x:Int×Int} (hgo:Tryz.Ab.go (xs.map Prod.snd) y0=some yq) (hxs:xs=pre++x::rest) (hI:jR w0 W F D0 K β2 y0 pre W')
  {a':Act} (hd:a'.defers=[]) (hsz:a'.tmps.size=17) (h2:a'.tmps.getD 2 undef=.pointer (some ⟨(β2 2).AP,0,none⟩)) (h5:a'.tmps.getD 5 undef=.pointer (some ⟨(β2 3).AP,0,none⟩)) (h7:a'.tmps.getD 7 undef=.int .i64 x.2) (l:Nat):
  jP.wpIn (Fence.wide.inRound l) 0 Tryz.prog (L0 W.heap.size (jR w0 W F D0 K β2 y0) (fun _ _ _=>False) (pre++[x]) W') a' W':=by
 obtain ⟨y,hy,D,β,vs,o,n,e1,e2,e3,e4,e5,e6,e7,e8,e9⟩:=hI
 obtain ⟨hE,_,_,_⟩:=jQ
 have hst: ∃ y',Tryz.Ab.step x.2 y=some y':=by
  rw [hxs,List.map_append,Tryz.Ab.Ik,hy] at hgo
  simp only [Option.bind_some,List.map_cons,Tryz.Ab.go] at hgo
  cases hs:Tryz.Ab.step x.2 y with
  | none=>rw [hs] at hgo;cases hgo
  | some y'=>exact ⟨y',rfl⟩
 obtain ⟨y',hy'⟩:=hst
 have he:iz.enc (S:=En.Dop.D4) (((),(),x.2,()),y.2) 4=([.ptr 2 0,.ptr 3 0,.v (.int .i64 x.2)],o,n):=by
  have h:iz.enc (S:=En.Dop.D4) (((),(),x.2,()),y.2) 4=([.ptr 2 0,.ptr 3 0,.v (.int .i64 x.2)],(IM.enc (S:=En.Dop.D4) y 4).2.1,(IM.enc (S:=En.Dop.D4) y 4).2.2):=by kernel_rfl
  rw [h,e1]
 refine TJ hE (f0:=3000) (adr:=[1,0,1,0,1,1]) bN fQ (sp:=iz) (qe:=IM) (ts:=[2,5,7]) (bn:=4) (by kernel_rfl) (x:=(((),(),x.2,()),y.2)) (y:=y') hy' he e3.base ?_ e4 (e3.inv hkp) hd hsz ?_ (fun _ _ _ h=>h) (fun ⟨_,_,h⟩=>h) ?_ l
 ·simp only [BR,SV.on,and_true]
  omega
 ·intro j t v hj hv
  match j with
  | 0=>
   simp only [List.getElem?_cons_zero,Option.some.injEq] at hj hv;subst hj;subst hv
   exact ⟨by show 2<17;omega,by rw [h2,<- e2 2 (by omega)];simp only [SV.den]⟩
  | 1=>
   simp only [List.getElem?_cons_succ,List.getElem?_cons_zero,Option.some.injEq] at hj hv;subst hj;subst hv
   exact ⟨by show 5<17;omega,by rw [h5,<- e2 3 (by omega)];simp only [SV.den]⟩
  | 2=>
   simp only [List.getElem?_cons_succ,List.getElem?_cons_zero,Option.some.injEq] at hj hv;subst hj;subst hv
   exact ⟨by show 7<17;omega,by rw [h7];simp only [SV.den]⟩
  | j+3=>simp at hj
 ·intro a'' W'' D' β' vs' o' n' f1 f2 f3 f4
  obtain ⟨g1,g2⟩:=Nq.next e3 e2 e5 e6 e7 e8 e9 f1 f2 f3 f4
  refine ⟨g1,y',?_,g2⟩
  rw [List.map_append,Tryz.Ab.Ik,hy]
  simp only [Option.bind_some,List.map_cons,List.map_nil,Tryz.Ab.go,hy']
theorem Yh {w:World} {D:Nat->Prop} {β:Nat->Nm} {o0:List (Nat×En.Own En.Dop.D4)} (hkp:Bz En.Dop.D4 w (AJ o0 β) D) {fn:Func} (hres:fn.results=#[.tmp 4]) {W W':World} {K:Nat->Prop} {β2:Nat->Nm} {yq:En.Spec.D En.Dop.D4 IM} (hβ: ∀ i,i<2->β2 i=β i) (hm:Nq w W (AJ o0 β) D K IM 4 β2 W.heap.size yq W')
  {a:Act} (hd:a.defers=[]) (hsz:a.tmps.size=17) (h2:a.tmps.getD 2 undef=.pointer (some ⟨(β2 2).AP,0,none⟩)) (h5:a.tmps.getD 5 undef=.pointer (some ⟨(β2 3).AP,0,none⟩)) (hK:W'.heap[W.heap.size]?=some (.deferred (some []))):
  iy.wpIn Fence.wide 0 Tryz.prog (LD (bodyPostM Fence.wide 2 Tryz.prog fn (Dk (S:=En.Dop.D4) Tryz.Ab.c ((yq.2.2.2.2.1.1,()),(yq.2.1,yq.2.2.1,())) w D β o0))) { a with defers:={ target:=.collected W.heap.size,args:=#[] }::a.defers } W':=by
 obtain ⟨D',β',vs,o,n,e1,e2,e3,e4,e5,e6,e7,e8,e9⟩:=hm
 obtain ⟨hE,_,_,_⟩:=jQ
 refine wpIn_wide.2 ?_
 rw [bO]
 refine wp_seq (wp_region_list ?_)
 have hkp':=e3.keeps hkp
 have ho:o=(IM.enc (S:=En.Dop.D4) yq 4).2.1:=by rw [e1]
 have hn:n=(IM.enc (S:=En.Dop.D4) yq 4).2.2:=by rw [e1]
 have hv:=Jp hE (w0:=W') (F:=AJ o β') (D0:=D') (bn:=4) (β0:=β') (f0:=3000) (k0:=[.ops Vj Vj.toList]) (s0:=⟨[(2,.ptr 2 0),(5,.ptr 3 0)],o,n,17⟩)
  (Q:=fun e a' w'=>match e with
   | .normal=>a'.defers=[]/\a'.tmps.getD 4 undef=.int .i64 yq.2.2.2.2.1.1/\ ∃ D2 β3,(∀ i,i<4->β3 i=β' i)/\GH W' (AJ o β') D' D2 o (· <n) β3 w'
   | _=>False) hkp' (fun _ _ _ _ _ h=>h) e4 rfl (fun z hz=>by
    simp only [List.mem_cons,List.not_mem_nil,or_false] at hz
    subst hz;trivial) (by
   subst ho;subst hn
   rw [bP]
   intro _ _ D2 β3 a' w' hag hg
   refine ⟨hg.defers,by rw [hg.tmps 4 (.v (.int .i64 yq.2.2.2.2.1.1)) rfl];simp only [SV.den],D2,β3,hag,hg.gh⟩)
 have hl:=hv D' β' { a with defers:=[] } W' (fun _ _=>rfl) ⟨rfl,hsz,fun t x hx=>?_,fun t x hx=>?_,e3.base⟩
 ·simp only [List.map_cons,List.map_nil,Bd.it,after] at hl
  have hl2:=DG (ds:=[{ target:=.collected W.heap.size,args:=#[] }]) (Q':=Exit.then (Code.ret.wp Tryz.prog (LD (bodyPostM Fence.wide 2 Tryz.prog fn (Dk (S:=En.Dop.D4) Tryz.Ab.c ((yq.2.2.2.2.1.1,()),(yq.2.1,yq.2.2.1,())) w D β o0)))) (LD (bodyPostM Fence.wide 2 Tryz.prog fn (Dk (S:=En.Dop.D4) Tryz.Ab.c ((yq.2.2.2.2.1.1,()),(yq.2.1,yq.2.2.1,())) w D β o0)))) ?_ (fun _ _ _ h=>h.elim) (fun ⟨_,_,h⟩=>h) hl
  ·rw [hd];exact hl2
  ·rintro a' w' ⟨hd',hr,D2,β3,hag,hgh⟩
   refine wp_ret ?_
   obtain ⟨g1,g2⟩:=Nq.next e3 e2 e5 e6 e7 e8 e9 e1 hag hgh e4
   have hK':=(g1 W.heap.size (.inl rfl)).trans hK
   show LeavesInM _ _ _ _ _ _ _ _ _
   rw [hd']
   refine ⟨by simp,.inl ⟨_,_,rfl,run_takeDeferred hK',?_⟩⟩
   refine ⟨.int .i64 yq.2.2.2.2.1.1,by rw [<-hr];exact results_tmp hres _ _ _,?_⟩
   obtain ⟨D4,β4,vs4,o4,n4,f1,f2,f3,f4,_⟩:=g2.UK (.deferred none)
   rcases he:En.Spec.enc (S:=En.Dop.D4) ⟨[.fd (.int .i64)],[CK.b0,CT.b1]⟩ ((yq.2.2.2.2.1.1,()),(yq.2.1,yq.2.2.1,())) 2 with ⟨rs,o5,n5⟩
   have ho4:o4=(IM.enc (S:=En.Dop.D4) yq 4).2.1:=by rw [f1]
   obtain ⟨ps,hps,hm0,hm1⟩:=bQ yq
   rw [<-ho4] at hps
   obtain ⟨β5,b1,b2,b3,b4,b5,_⟩:=En.Spec.B4 f3 hps (by kernel_rfl) he
   have hrs:rs=[.v (.int .i64 yq.2.2.2.2.1.1)]:=by
    have h:En.Spec.enc (S:=En.Dop.D4) ⟨[.fd (.int .i64)],[CK.b0,CT.b1]⟩ ((yq.2.2.2.2.1.1,()),(yq.2.1,yq.2.2.1,())) 2=([.v (.int .i64 yq.2.2.2.2.1.1)],(En.Spec.enc (S:=En.Dop.D4) ⟨[.fd (.int .i64)],[CK.b0,CT.b1]⟩ ((yq.2.2.2.2.1.1,()),(yq.2.1,yq.2.2.1,())) 2).2.1,(En.Spec.enc (S:=En.Dop.D4) ⟨[.fd (.int .i64)],[CK.b0,CT.b1]⟩ ((yq.2.2.2.2.1.1,()),(yq.2.1,yq.2.2.1,())) 2).2.2):=by kernel_rfl
    rw [he] at h
    exact (Prod.mk.inj h).1
   refine ⟨_,β5,rs,o5,n5,he,?_,fun i hi=>?_,b2,b4,b5⟩
   ·rw [hrs];simp only [At,SV.den]
   ·have hi2:i<2:=hi
    have hmi:lk ps.m i=some i:=by
     match i,hi2 with
     | 0,_=>exact hm0
     | 1,_=>exact hm1
    rw [b1 i hi2 i hmi,f2 i (by omega),hβ i hi2]
 all_goals
  simp only [AI] at hx
  split at hx
  ·rename_i he;subst he;cases hx
   first
    | (refine ⟨by show 2<17;omega,?_⟩;simp only [SV.on];omega)
    | (rw [show ({ a with defers:=[] }:Act).tmps.getD 2 undef=a.tmps.getD 2 undef from rfl,h2,<- e2 2 (by omega)];simp only [SV.den])
  ·split at hx
   ·rename_i he;subst he;cases hx
    first
     | (refine ⟨by show 5<17;omega,?_⟩;simp only [SV.on];omega)
     | (rw [show ({ a with defers:=[] }:Act).tmps.getD 5 undef=a.tmps.getD 5 undef from rfl,h5,<- e2 3 (by omega)];simp only [SV.den])
   ·simp [AO] at hx
theorem QJ (args:Array Value) (w:World):(callFunc 146 args).run Tryz.prog w=.ok (.enter 146 args) w:=Ck (by kernel_rfl)
theorem Tryz.Ab.holds:Tryz.Ab.c.Holds Tryz.prog:=by
 obtain ⟨hE,hbod,hokB,fn,hf,hb,hn',hres⟩:=jQ
 refine ⟨hbod,hokB,fun h=>(by cases h),fun x y hxy w D β vs o n he hg hon hn hiv=>?_⟩
 have hxy:Tryz.Ab.R x=some y:=hxy
 unfold Tryz.Ab.R at hxy
 split at hxy
 case h_2=>cases hxy
 rename_i hl
 have hl:=of_decide_eq_true hl
 obtain ⟨yq,hgo,hy⟩:=Option.bind_eq_some_iff.1 hxy
 cases hy
 have hkp:Bz En.Dop.D4 w (AJ o β) D:=⟨hiv,fun k hk=>⟨hg.C8 k hk,fun ⟨i,b,hi,hik⟩=>hg.off i b k hi hik hk⟩⟩
 have hx:x=(((),x.1.2.1,()),x.2):=rfl
 have he':En.Spec.enc (S:=En.Dop.D4) ⟨[.al 0 0,.fd (.sl 0)],[CK.b0,CT.b1]⟩ (((),x.1.2.1,()),x.2) 2=(vs,o,n):=he
 have hlen:vs.length=2:=En.Spec.Aa he
 refine VC.SD (M:=0+3000) (bn:=2) hf hb hn' (by omega) hon hg ?_
 refine Jp hE hkp (fun _ _ _ _ _ h=>h) (k0:=[.code [] (AQ Tryz.prog 136)]) (s0:=⟨Bj 0 vs,o,n,17⟩) hn rfl (fun z hz=>by
  simp only [List.mem_cons,List.not_mem_nil,or_false] at hz
  subst hz;rfl) ?_
 rw [Tryz.Ab.part x.1.2.1 ((),x.2) vs o n he']
 intro _ _ D1 β1 a W hβ1 hg1
 simp only [List.map_cons,List.map_nil,Bd.it,after]
 obtain ⟨ps,hps,hp7,hpbl,hm1,hm2,hm0,hm01⟩:=Vk x.1.2.1 ((),x.2)
 rcases hq:IM.enc (S:=En.Dop.D4) ((),(x.2.1,x.2.2.1,((),()),(-1,()),())) 4 with ⟨vq,o2,n2⟩
 have he2:En.Spec.enc (S:=En.Dop.D4) ⟨[.al 2 0,.al 3 0],IM.bx⟩ (((),(),()),(x.2.1,x.2.2.1,((),()),(-1,()),())) 4=([.ptr 2 0,.ptr 3 0],o2,n2):=by
  have h:En.Spec.enc (S:=En.Dop.D4) ⟨[.al 2 0,.al 3 0],IM.bx⟩ (((),(),()),(x.2.1,x.2.2.1,((),()),(-1,()),())) 4=([.ptr 2 0,.ptr 3 0],(IM.enc (S:=En.Dop.D4) ((),(x.2.1,x.2.2.1,((),()),(-1,()),())) 4).2.1,(IM.enc (S:=En.Dop.D4) ((),(x.2.1,x.2.2.1,((),()),(-1,()),())) 4).2.2):=by kernel_rfl
  rw [h,hq]
 obtain ⟨β2,b1,b2,_,_,b5,b6,b7,_,_⟩:=En.Spec.B4 hg1.gh hps (by kernel_rfl) he2
 have r1:=b1 2 (by omega) 17 hm1
 have r2:=b1 3 (by omega) 18 hm2
 have r0:=b1 0 (by omega) 0 hm0
 have ez:=b1 1 (by omega) 1 hm01
 obtain ⟨Bs,hBs,hBh⟩:=hg1.gh.own 19 _ (show lk (eh x.1.2.1 ((),x.2)).o 19=some (.AP 66 [.h 2]) from rfl)
 obtain ⟨_,hrow⟩:=hg1.gh.own 2 _ (show lk (eh x.1.2.1 ((),x.2)).o 2=some (.sl 0 x.1.2.1) by kernel_rfl)
 have Az:(β1 19).AP=Bs:=by unfold Nm.AP;rw [hBs];rfl
 have hBs':Bs<W.heap.size:=(Array.getElem?_eq_some_iff.1 hBh).1
 have hgd:=b2.fI (r:=Bs) (fun i b hi hk=>b6 19 _ i b Bs hp7 (by rw [hpbl];simp) hi (Nm.Ew hBs) hk) hBs' (hg1.gh.fresh 19 _ Bs (show lk (eh x.1.2.1 ((),x.2)).o 19=some (.AP 66 [.h 2]) from rfl) (Nm.Ew hBs))
 have hrd: ∀ W':World,(∀ k,(FN D1 β1 ps.bl k\/k=Bs)->W'.heap[k]?=W.heap[k]?)->af Bs x.1.2.1 W':=fun W' hs=>by
  have hc:W'.cell? ⟨Bs,0,none⟩=some ((β1 2).sl):=by
   rw [World.cell?_of_block (w:=W) (hs Bs (.inr rfl))]
   unfold World.cell?
   rw [hBh]
   simp [AA,SV.den]
  rcases RE hrow with ⟨h1,a',c,h2⟩|⟨b,off,cap,h2,h3,h4⟩
  ·exact .inl ⟨h1,a',c,by rw [hc,h2]⟩
  ·exact .inr ⟨b,off,cap,by rw [hc,h2],fun j hj=>by rw [World.cell?_of_block (w:=W) (hs b (.inl (.inl h3)))];exact h4 j hj⟩
 have t2:a.tmps.getD 2 undef=.pointer (some ⟨(β2 2).AP,0,none⟩):=by rw [hg1.tmps 2 (.ptr 17 0) rfl,r1];simp only [SV.den]
 have t5:a.tmps.getD 5 undef=.pointer (some ⟨(β2 3).AP,0,none⟩):=by rw [hg1.tmps 5 (.ptr 18 0) rfl,r2];simp only [SV.den]
 have hsz:a.tmps.size=17:=hg1.size
 have hgo':Tryz.Ab.go ((bwd x.1.2.1).map Prod.snd) ((),(x.2.1,x.2.2.1,((),()),(-1,()),()))=some yq:=by rw [TK];exact hgo
 refine wpIn_wide.2 (wpIn_wide.1 (KW (gf:=146) (lb:=#[.pointer (some ⟨Bs,0,none⟩)]) ?_ QJ (Tryz.TF Bs x.1.2.1 hl) (fun _=>rfl)
  (jR w W (AJ o β) D (fun k=>FN D1 β1 ps.bl k\/k=Bs) β2 ((),(x.2.1,x.2.2.1,((),()),(-1,()),()))) (fun _ _ _=>False) (fun pre W' ob ⟨y,h1,h2⟩ hlt=>⟨y,h1,Nq.YJ y W' ob h2 hlt⟩) (fun _ _ _ _ h _=>h)
  (fun pre W' ⟨_,_,_,_,_,_,_,_,_,_,_,_,_,_,_,h9⟩=>hrd W' h9) (fun ob ob'=>⟨_,rfl,Nq.first hq hgd b5 (fun _ h=>h) ob ob'⟩)
  (fun x' a'=>a'.defers=[]/\a'.tmps.size=17/\a'.tmps.getD 2 undef=.pointer (some ⟨(β2 2).AP,0,none⟩)/\a'.tmps.getD 5 undef=.pointer (some ⟨(β2 3).AP,0,none⟩)/\a'.tmps.getD 7 undef=.int .i64 x'.2) ?_ ?_ ?_ ?_))
 ·rw [show a.eval (.tmp 9)=a.tmps.getD 9 undef from rfl,hg1.tmps 9 (.fn 146 [.ptr 19 0]) rfl]
  simp only [SV.den,AA,EY (show Nat.ble 1000000 146=false from rfl),Az]
 ·intro l x' W' K hK
  exact Ua hsz fun a' h1 h2 h3 h4=>hK a' ⟨h1,h2,by rw [h3 2 (by decide) (by decide) (by decide)];exact t2,by rw [h3 5 (by decide) (by decide) (by decide)];exact t5,h4⟩
 ·rintro pre x' rest a' W' hxs _ hI ⟨h1,h2,h3,h4,h5⟩
  exact Yg hkp hgo' hxs hI h1 h2 h3 h4 h5 _
 ·rintro W' ⟨y,h1,h2⟩ hK
  rw [hgo'] at h1
  cases h1
  simp only [after,Exit.inBlock]
  exact Yh hkp hres (fun i hi=>by
   match i,hi with
   | 0,_=>rw [r0];exact hβ1 0 (by omega)
   | 1,_=>rw [ez];exact hβ1 1 (by omega)) h2 hg1.defers hsz t2 t5 hK
 ·exact fun _ _ _ _ h=>h.elim
end Go.Proofs
