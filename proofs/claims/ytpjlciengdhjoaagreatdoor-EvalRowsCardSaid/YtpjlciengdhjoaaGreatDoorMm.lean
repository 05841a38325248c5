/- What the boxes of some types hold: as one, with names of the parts. Written by a program. -/
import Derived.Test.YtpjlciengdhjoaaGreatDoorMj
namespace Go.Proofs
open Go Go.En
abbrev CK:Type:=En.Dop.HW×Unit×List (Int)×List (En.Dop.Ey)×List (En.Dop.PX)×Int×List (En.Dop.AV)×List (List (List UInt8×En.Dop.EB))×List (List UInt8×En.Dop.Pa)×List (List UInt8×Int)×En.Dop.Ey×Int×List (List UInt8×Int)×List (List UInt8×Int)×Int×List (List (Int×Int))×Int×Int×Int×Unit
abbrev CK.t (k:CK):En.Dop.HW:=k.1
abbrev CK.mv (k:CK) (v:En.Dop.HW):CK:=(v,k.2)
abbrev CK.num (k:CK):List (Int):=k.2.2.1
abbrev CK.OF (k:CK) (v:List (Int)):CK:=(k.1,k.2.1,v,k.2.2.2)
abbrev CK.funcs (k:CK):List (En.Dop.Ey):=k.2.2.2.1
abbrev CK.KU (k:CK) (v:List (En.Dop.Ey)):CK:=(k.1,k.2.1,k.2.2.1,v,k.2.2.2.2)
abbrev CK.globals (k:CK):List (En.Dop.PX):=k.2.2.2.2.1
abbrev CK.Ip (k:CK) (v:List (En.Dop.PX)):CK:=(k.1,k.2.1,k.2.2.1,k.2.2.2.1,v,k.2.2.2.2.2)
abbrev CK.top (k:CK):Int:=k.2.2.2.2.2.1
abbrev CK.VU (k:CK) (v:Int):CK:=(k.1,k.2.1,k.2.2.1,k.2.2.2.1,k.2.2.2.2.1,v,k.2.2.2.2.2.2)
abbrev CK.nodes (k:CK):List (En.Dop.AV):=k.2.2.2.2.2.2.1
abbrev CK.Eo (k:CK) (v:List (En.Dop.AV)):CK:=(k.1,k.2.1,k.2.2.1,k.2.2.2.1,k.2.2.2.2.1,k.2.2.2.2.2.1,v,k.2.2.2.2.2.2.2)
abbrev CK.names (k:CK):List (List (List UInt8×En.Dop.EB)):=k.2.2.2.2.2.2.2.1
abbrev CK.Dl (k:CK) (v:List (List (List UInt8×En.Dop.EB))):CK:=(k.1,k.2.1,k.2.2.1,k.2.2.2.1,k.2.2.2.2.1,k.2.2.2.2.2.1,k.2.2.2.2.2.2.1,v,k.2.2.2.2.2.2.2.2)
abbrev CK.sigs (k:CK):List (List UInt8×En.Dop.Pa):=k.2.2.2.2.2.2.2.2.1
abbrev CK.Jh (k:CK) (v:List (List UInt8×En.Dop.Pa)):CK:=(k.1,k.2.1,k.2.2.1,k.2.2.2.1,k.2.2.2.2.1,k.2.2.2.2.2.1,k.2.2.2.2.2.2.1,k.2.2.2.2.2.2.2.1,v,k.2.2.2.2.2.2.2.2.2)
abbrev CK.taken (k:CK):List (List UInt8×Int):=k.2.2.2.2.2.2.2.2.2.1
abbrev CK.cG (k:CK) (v:List (List UInt8×Int)):CK:=(k.1,k.2.1,k.2.2.1,k.2.2.2.1,k.2.2.2.2.1,k.2.2.2.2.2.1,k.2.2.2.2.2.2.1,k.2.2.2.2.2.2.2.1,k.2.2.2.2.2.2.2.2.1,v,k.2.2.2.2.2.2.2.2.2.2)
abbrev CK.f (k:CK):En.Dop.Ey:=k.2.2.2.2.2.2.2.2.2.2.1
abbrev CK.gg (k:CK) (v:En.Dop.Ey):CK:=(k.1,k.2.1,k.2.2.1,k.2.2.2.1,k.2.2.2.2.1,k.2.2.2.2.2.1,k.2.2.2.2.2.2.1,k.2.2.2.2.2.2.2.1,k.2.2.2.2.2.2.2.2.1,k.2.2.2.2.2.2.2.2.2.1,v,k.2.2.2.2.2.2.2.2.2.2.2)
abbrev CK.Gm (k:CK):Int:=k.2.2.2.2.2.2.2.2.2.2.2.1
abbrev CK.Me (k:CK) (v:Int):CK:=(k.1,k.2.1,k.2.2.1,k.2.2.2.1,k.2.2.2.2.1,k.2.2.2.2.2.1,k.2.2.2.2.2.2.1,k.2.2.2.2.2.2.2.1,k.2.2.2.2.2.2.2.2.1,k.2.2.2.2.2.2.2.2.2.1,k.2.2.2.2.2.2.2.2.2.2.1,v,k.2.2.2.2.2.2.2.2.2.2.2.2)
abbrev CK.labels (k:CK):List (List UInt8×Int):=k.2.2.2.2.2.2.2.2.2.2.2.2.1
abbrev CK.SF (k:CK) (v:List (List UInt8×Int)):CK:=(k.1,k.2.1,k.2.2.1,k.2.2.2.1,k.2.2.2.2.1,k.2.2.2.2.2.1,k.2.2.2.2.2.2.1,k.2.2.2.2.2.2.2.1,k.2.2.2.2.2.2.2.2.1,k.2.2.2.2.2.2.2.2.2.1,k.2.2.2.2.2.2.2.2.2.2.1,k.2.2.2.2.2.2.2.2.2.2.2.1,v,k.2.2.2.2.2.2.2.2.2.2.2.2.2)
abbrev CK.gotos (k:CK):List (List UInt8×Int):=k.2.2.2.2.2.2.2.2.2.2.2.2.2.1
abbrev CK.cE (k:CK) (v:List (List UInt8×Int)):CK:=(k.1,k.2.1,k.2.2.1,k.2.2.2.1,k.2.2.2.2.1,k.2.2.2.2.2.1,k.2.2.2.2.2.2.1,k.2.2.2.2.2.2.2.1,k.2.2.2.2.2.2.2.2.1,k.2.2.2.2.2.2.2.2.2.1,k.2.2.2.2.2.2.2.2.2.2.1,k.2.2.2.2.2.2.2.2.2.2.2.1,k.2.2.2.2.2.2.2.2.2.2.2.2.1,v,k.2.2.2.2.2.2.2.2.2.2.2.2.2.2)
abbrev CK.loops (k:CK):Int:=k.2.2.2.2.2.2.2.2.2.2.2.2.2.2.1
abbrev CK.Iq (k:CK) (v:Int):CK:=(k.1,k.2.1,k.2.2.1,k.2.2.2.1,k.2.2.2.2.1,k.2.2.2.2.2.1,k.2.2.2.2.2.2.1,k.2.2.2.2.2.2.2.1,k.2.2.2.2.2.2.2.2.1,k.2.2.2.2.2.2.2.2.2.1,k.2.2.2.2.2.2.2.2.2.2.1,k.2.2.2.2.2.2.2.2.2.2.2.1,k.2.2.2.2.2.2.2.2.2.2.2.2.1,k.2.2.2.2.2.2.2.2.2.2.2.2.2.1,v,k.2.2.2.2.2.2.2.2.2.2.2.2.2.2.2)
abbrev CK.SM (k:CK):List (List (Int×Int)):=k.2.2.2.2.2.2.2.2.2.2.2.2.2.2.2.1
abbrev CK.PJ (k:CK) (v:List (List (Int×Int))):CK:=(k.1,k.2.1,k.2.2.1,k.2.2.2.1,k.2.2.2.2.1,k.2.2.2.2.2.1,k.2.2.2.2.2.2.1,k.2.2.2.2.2.2.2.1,k.2.2.2.2.2.2.2.2.1,k.2.2.2.2.2.2.2.2.2.1,k.2.2.2.2.2.2.2.2.2.2.1,k.2.2.2.2.2.2.2.2.2.2.2.1,k.2.2.2.2.2.2.2.2.2.2.2.2.1,k.2.2.2.2.2.2.2.2.2.2.2.2.2.1,k.2.2.2.2.2.2.2.2.2.2.2.2.2.2.1,v,k.2.2.2.2.2.2.2.2.2.2.2.2.2.2.2.2)
abbrev CK.Qu (k:CK):Int:=k.2.2.2.2.2.2.2.2.2.2.2.2.2.2.2.2.1
abbrev CK.Lo (k:CK) (v:Int):CK:=(k.1,k.2.1,k.2.2.1,k.2.2.2.1,k.2.2.2.2.1,k.2.2.2.2.2.1,k.2.2.2.2.2.2.1,k.2.2.2.2.2.2.2.1,k.2.2.2.2.2.2.2.2.1,k.2.2.2.2.2.2.2.2.2.1,k.2.2.2.2.2.2.2.2.2.2.1,k.2.2.2.2.2.2.2.2.2.2.2.1,k.2.2.2.2.2.2.2.2.2.2.2.2.1,k.2.2.2.2.2.2.2.2.2.2.2.2.2.1,k.2.2.2.2.2.2.2.2.2.2.2.2.2.2.1,k.2.2.2.2.2.2.2.2.2.2.2.2.2.2.2.1,v,k.2.2.2.2.2.2.2.2.2.2.2.2.2.2.2.2.2)
abbrev CK.e (k:CK):Int:=k.2.2.2.2.2.2.2.2.2.2.2.2.2.2.2.2.2.1
abbrev CK.Wi (k:CK) (v:Int):CK:=(k.1,k.2.1,k.2.2.1,k.2.2.2.1,k.2.2.2.2.1,k.2.2.2.2.2.1,k.2.2.2.2.2.2.1,k.2.2.2.2.2.2.2.1,k.2.2.2.2.2.2.2.2.1,k.2.2.2.2.2.2.2.2.2.1,k.2.2.2.2.2.2.2.2.2.2.1,k.2.2.2.2.2.2.2.2.2.2.2.1,k.2.2.2.2.2.2.2.2.2.2.2.2.1,k.2.2.2.2.2.2.2.2.2.2.2.2.2.1,k.2.2.2.2.2.2.2.2.2.2.2.2.2.2.1,k.2.2.2.2.2.2.2.2.2.2.2.2.2.2.2.1,k.2.2.2.2.2.2.2.2.2.2.2.2.2.2.2.2.1,v,k.2.2.2.2.2.2.2.2.2.2.2.2.2.2.2.2.2.2)
abbrev CK.when (k:CK):Int:=k.2.2.2.2.2.2.2.2.2.2.2.2.2.2.2.2.2.2.1
abbrev CK.Fi (k:CK) (v:Int):CK:=(k.1,k.2.1,k.2.2.1,k.2.2.2.1,k.2.2.2.2.1,k.2.2.2.2.2.1,k.2.2.2.2.2.2.1,k.2.2.2.2.2.2.2.1,k.2.2.2.2.2.2.2.2.1,k.2.2.2.2.2.2.2.2.2.1,k.2.2.2.2.2.2.2.2.2.2.1,k.2.2.2.2.2.2.2.2.2.2.2.1,k.2.2.2.2.2.2.2.2.2.2.2.2.1,k.2.2.2.2.2.2.2.2.2.2.2.2.2.1,k.2.2.2.2.2.2.2.2.2.2.2.2.2.2.1,k.2.2.2.2.2.2.2.2.2.2.2.2.2.2.2.1,k.2.2.2.2.2.2.2.2.2.2.2.2.2.2.2.2.1,k.2.2.2.2.2.2.2.2.2.2.2.2.2.2.2.2.2.1,v,k.2.2.2.2.2.2.2.2.2.2.2.2.2.2.2.2.2.2.2)
abbrev CK.b0:En.Gx:=⟨0,86,[.st 7,.al 1 0,.own 0 3,.own 11 83,.own 12 63,.st 0,.own 5 89,.mr (.str) 9 true 78,.mp (.str) 15 true,.mp (.str) 0 false,.st 11,.st 0,.mp (.str) 0 false,.mp (.str) 0 false,.st 0,.mr (.int .i64) 0 false 166,.st 0,.fd (.int .i64),.st 0],false⟩
abbrev CK.b1:En.Gx:=⟨1,86,[.st 7,.al 2 0,.own 0 3,.own 11 83,.own 12 63,.st 0,.own 5 89,.mr (.str) 9 true 78,.mp (.str) 15 true,.mp (.str) 0 false,.st 11,.st 0,.mp (.str) 0 false,.mp (.str) 0 false,.st 0,.mr (.int .i64) 0 false 166,.st 0,.fd (.int .i64),.st 0],false⟩
abbrev CT:Type:=List (En.Dop.Fp)×List (List UInt8×List (En.Dop.Wl))×Unit
abbrev CT.l (k:CT):List (En.Dop.Fp):=k.1
abbrev CT.pK (k:CT) (v:List (En.Dop.Fp)):CT:=(v,k.2)
abbrev CT.fields (k:CT):List (List UInt8×List (En.Dop.Wl)):=k.2.1
abbrev CT.b0:En.Gx:=⟨0,117,[.own 6 111,.mp (.str) 17 false],false⟩
abbrev CT.b1:En.Gx:=⟨1,117,[.own 6 111,.mp (.str) 17 false],false⟩
abbrev CT.b2:En.Gx:=⟨2,117,[.own 6 111,.mp (.str) 17 false],false⟩
end Go.Proofs
set_option maxRecDepth 100000
set_option maxHeartbeats 4000000
namespace Go.Proofs.Tryz
open Go Go.En
def E8.p:Aj:=⟨[],1,⟨[.al 0 0,.fd (.int .i64)],[CT.b0]⟩,⟨[.st 6,.fd .bool],[CT.b0]⟩,false,[],[]⟩
theorem E8.ok:AH Dop.D4 prog 93 E8.p=true:=by kernel_rfl
def JV.p:Aj:=⟨[],1,⟨[.al 0 0,.st 6],[CT.b0]⟩,⟨[.fd (.int .i64),.fd (.int .i64)],[CT.b0]⟩,false,[(1,⟨[(0,true),(1,true),(2,true),(3,false),(4,false),(5,false),(6,true)],[],[0,1,3,7,0,31,63],true⟩),(6,⟨[(0,true),(1,true),(2,true),(3,true),(4,false),(5,false),(6,false)],[7,8,9,10],[0,0,2,6,14,0,32,126,255,511,1023],false⟩)],[]⟩
theorem JV.ok:AH Dop.D4 prog 121 JV.p=true:=by kernel_rfl
def JR.p:Aj:=⟨[],1,⟨[.al 0 0,.fd (.int .i64)],[CT.b0]⟩,⟨[.fd (.int .i64),.fd (.int .i64)],[CT.b0]⟩,false,[],[]⟩
theorem JR.ok:AH Dop.D4 prog 89 JR.p=true:=by kernel_rfl
abbrev Bq.WK:Cut:=⟨[[0,0,0,0,1,0,1,0,1,1,1,1,1,0,0,1,1],[0,1,0,0,1,0,1,0,1,1,1,1,1,0,0,1,1],[2,0,0,1,0,1,0,1,1,1,1,1,0,0,1,1],[1,1],[0,1,1,0,1,1,1,1,1,0,0,1,1],[1,0],[0,1,1,1]],[0,10,54,55,56],1,⟨[.al 0 0,.fd (.int .i64),.fd (.sl 16),.fd (.int .i64),.fd (.int .i64)],[CT.b0]⟩⟩
def Bq.p:Aj:=⟨[(10,Bq.WK)],1,⟨[.al 0 0,.fd (.int .i64)],[CT.b0]⟩,⟨[.fd (.int .i64),.fd .bool],[CT.b0]⟩,false,[(9,⟨[(0,true),(1,true),(2,true),(3,false),(4,true),(5,false),(6,false),(7,false),(8,true)],[],[0,1,3,7,0,16,63,127,0],false⟩)],[]⟩
theorem Bq.ok:AH Dop.D4 prog 51 Bq.p=true:=by kernel_rfl
abbrev GA.T:Type:=(((Unit×Int×Unit)×(CT×Unit))->Option ((Int×Bool×Unit)×(CT×Unit)))×Unit
def Ky.p:Aj:=⟨[],1,⟨[.al 0 0,.fd (.int .i64),.fd (.int .i64)],[CT.b0]⟩,⟨[.fd (.int .i64),.fd (.int .i64)],[CT.b0]⟩,false,[],[]⟩
theorem Ky.ok:AH Dop.D4 prog 90 Ky.p=true:=by kernel_rfl
def JS.p:Aj:=⟨[],1,⟨[.al 0 0,.fd .str],[CT.b0]⟩,⟨[.fd (.int .i64),.fd (.int .i64)],[CT.b0]⟩,false,[],[]⟩
theorem JS.ok:AH Dop.D4 prog 91 JS.p=true:=by kernel_rfl
def D5.p:Aj:=⟨[],1,⟨[.al 0 0,.fd (.int .i64)],[CT.b0]⟩,⟨[.fd .bool],[CT.b0]⟩,false,[],[]⟩
theorem D5.ok:AH Dop.D4 prog 55 D5.p=true:=by kernel_rfl
abbrev H7.q6:Cut:=⟨[[0,0,0,0,1,0,1,1,1,1],[0,1,0,0,1,0,1,1,1,1],[2,0,0,1,0,1,1,1,1],[1,0],[0,1,1,1,1,1]],[0,2,11,35,36,37],1,⟨[.al 0 0,.fd .str,.fd (.int .i64),.fd (.sl 16),.fd (.int .i64),.fd (.int .i64)],[CT.b0]⟩⟩
def H7.p:Aj:=⟨[(6,H7.q6)],1,⟨[.al 0 0,.fd (.int .i64),.fd .str],[CT.b0]⟩,⟨[.fd (.int .i64),.fd (.int .i64),.fd .bool],[CT.b0]⟩,false,[(5,⟨[(0,true),(1,true),(2,true),(3,false),(4,true),(5,false),(6,false),(7,false),(8,true)],[],[0,1,3,7,0,16,63,127,0],false⟩),(9,⟨[(0,true),(1,true),(2,false),(3,true),(4,true),(5,true)],[],[0,0,2,1,15,31],false⟩)],[]⟩
theorem H7.ok:AH Dop.D4 prog 189 H7.p=true:=by kernel_rfl
def MY.p:Aj:=⟨[],2,⟨[.al 0 0,.fd (.int .i64)],[CK.b0,CT.b1]⟩,⟨[.st 5],[CK.b0,CT.b1]⟩,false,[],[]⟩
theorem MY.ok:AH Dop.D4 prog 32 MY.p=true:=by kernel_rfl
def BB.p:Aj:=⟨[],2,⟨[.al 0 0,.fd (.int .i64),.fd (.int .i64)],[CK.b0,CT.b1]⟩,⟨[.st 10],[CK.b0,CT.b1]⟩,false,[],[]⟩
theorem BB.ok:AH Dop.D4 prog 50 BB.p=true:=by kernel_rfl
def Dg.p:Aj:=⟨[],2,⟨[.al 0 0,.fd (.int .i64)],[CK.b0,CT.b1]⟩,⟨[.fd (.int .i64)],[CK.b0,CT.b1]⟩,false,[],[]⟩
theorem Dg.ok:AH Dop.D4 prog 54 Dg.p=true:=by kernel_rfl
def Fa.p:Aj:=⟨[],2,⟨[.al 0 0,.fd (.int .i64)],[CK.b0,CT.b1]⟩,⟨[.fd .bool],[CK.b0,CT.b1]⟩,false,[],[]⟩
theorem Fa.ok:AH Dop.D4 prog 52 Fa.p=true:=by kernel_rfl
def GC.p:Aj:=⟨[],2,⟨[.al 0 0,.fd (.int .i64)],[CK.b0,CT.b1]⟩,⟨[.fd (.int .i64),.fd (.int .i64)],[CK.b0,CT.b1]⟩,false,[(2,⟨[(0,true),(1,true),(2,true),(3,false),(4,true),(5,false),(6,false),(7,true),(8,true),(9,true),(10,true),(11,true)],[2000000],[0,1,3,7,0,16,63,127,255,255,511,2047],false⟩)],[]⟩
theorem GC.ok:AH Dop.D4 prog 157 GC.p=true:=by kernel_rfl
def KJ.p:Aj:=⟨[],2,⟨[.al 0 0,.fd (.int .i64)],[CK.b0,CT.b1]⟩,⟨[.fd .bool],[CK.b0,CT.b1]⟩,false,[],[]⟩
theorem KJ.ok:AH Dop.D4 prog 183 KJ.p=true:=by kernel_rfl
def Iw.p:Aj:=⟨[],2,⟨[.al 0 0,.fd (.int .i64),.fd (.int .i64)],[CK.b0,CT.b1]⟩,⟨[.fd (.int .i64)],[CK.b0,CT.b1]⟩,false,[],[]⟩
theorem Iw.ok:AH Dop.D4 prog 181 Iw.p=true:=by kernel_rfl
def BX.p:Aj:=⟨[],2,⟨[.al 0 0,.fd (.int .i64),.fd (.int .i64),.fd (.int .i64),.fd (.int .i64),.fd (.int .i64),.fd .str],[CK.b0,CT.b1]⟩,⟨[.fd (.int .i64)],[CK.b0,CT.b1]⟩,false,[],[]⟩
noncomputable def BX.E:Env Dop.D4:=AU prog 59 tb [] BX.p
theorem BX.ok:AH Dop.D4 prog 59 BX.p=true:=by kernel_rfl
noncomputable def BX.c:BU Dop.D4:=⟨59,BX.p.bn,BX.p.sp,BX.p.rs,BX.p.flat,.opt (BX.E.run 3000 BX.p.sp)⟩
theorem BX.holds:BX.c.Holds prog:=BP 3000 AJ Am BX.ok
def Dz.p:Aj:=⟨[],0,⟨[.fd (.int .i64)],[]⟩,⟨[.fd (.int .i64)],[]⟩,true,[],[]⟩
theorem Dz.ok:AH Dop.D4 prog 53 Dz.p=true:=by kernel_rfl
def E9.p:Aj:=⟨[],2,⟨[.al 0 0,.fd (.int .i64)],[CK.b0,CT.b1]⟩,⟨[.fd (.int .i64)],[CK.b0,CT.b1]⟩,false,[],[]⟩
theorem E9.ok:AH Dop.D4 prog 95 E9.p=true:=by kernel_rfl
def Fm.p:Aj:=⟨[],2,⟨[.al 0 0,.fd (.int .i64)],[CK.b0,CT.b1]⟩,⟨[.fd (.int .i64)],[CK.b0,CT.b1]⟩,false,[],[]⟩
theorem Fm.ok:AH Dop.D4 prog 61 Fm.p=true:=by kernel_rfl
def JT.p:Aj:=⟨[],2,⟨[.al 0 0,.fd (.int .i64)],[CK.b0,CT.b1]⟩,⟨[.fd (.int .i64)],[CK.b0,CT.b1]⟩,false,[],[]⟩
theorem JT.ok:AH Dop.D4 prog 94 JT.p=true:=by kernel_rfl
def K1.p:Aj:=⟨[],2,⟨[.al 0 0,.fd (.int .i64)],[CK.b0,CT.b1]⟩,⟨[.fd (.int .i64)],[CK.b0,CT.b1]⟩,false,[],[]⟩
theorem K1.ok:AH Dop.D4 prog 179 K1.p=true:=by kernel_rfl
def K2.p:Aj:=⟨[],2,⟨[.al 0 0,.fd (.int .i64)],[CK.b0,CT.b1]⟩,⟨[.fd (.int .i64)],[CK.b0,CT.b1]⟩,false,[],[]⟩
theorem K2.ok:AH Dop.D4 prog 180 K2.p=true:=by kernel_rfl
def JX.p:Aj:=⟨[],2,⟨[.al 0 0,.fd (.int .i64),.fd (.int .i64)],[CK.b0,CT.b1]⟩,⟨[.st 10],[CK.b0,CT.b1]⟩,false,[],[]⟩
theorem JX.ok:AH Dop.D4 prog 146 JX.p=true:=by kernel_rfl
def HC.p:Aj:=⟨[],2,⟨[.al 0 0,.st 9],[CK.b0,CT.b1]⟩,⟨[.fd (.int .i64)],[CK.b0,CT.b1]⟩,false,[],[]⟩
theorem HC.ok:AH Dop.D4 prog 60 HC.p=true:=by kernel_rfl
def K0.p:Aj:=⟨[],2,⟨[.al 0 0,.fd (.int .i64),.fd (.int .i64)],[CK.b0,CT.b1]⟩,⟨[.fd (.int .i64)],[CK.b0,CT.b1]⟩,false,[],[]⟩
theorem K0.ok:AH Dop.D4 prog 158 K0.p=true:=by kernel_rfl
def H5.p:Aj:=⟨[],2,⟨[.al 0 0,.fd (.int .i64),.fd (.int .i64)],[CK.b0,CT.b1]⟩,⟨[.fd (.int .i64)],[CK.b0,CT.b1]⟩,false,[],[]⟩
theorem H5.ok:AH Dop.D4 prog 159 H5.p=true:=by kernel_rfl
def Cr.p:Aj:=⟨[],2,⟨[.al 0 0,.fd (.int .i64),.fd (.int .i64),.fd (.int .i64),.fd (.int .i64),.fd (.int .i64),.fd (.int .i64),.fd .str],[CK.b0,CT.b1]⟩,⟨[.fd (.int .i64)],[CK.b0,CT.b1]⟩,false,[],[]⟩
theorem Cr.ok:AH Dop.D4 prog 58 Cr.p=true:=by kernel_rfl
abbrev CS.q7:Cut:=⟨[[0,0,0,1,1,1,1],[0,1,0,1,1,1,1],[0,1,1,1,1,1]],[0,2,3,4,6,11,12,13],3,⟨[.al 0 0,.fd (.int .i64),.fd (.int .i64),.fd .bool,.al 2 0,.fd (.int .i64),.fd (.int .i64),.fd .bool],[CK.b0,CT.b1,⟨2,123,[.st 10],false⟩]⟩⟩
abbrev CS.gA:Cut:=⟨[[0,0,0,1,1,1,1,1,1],[0,1,0,1,1,1,1,1,1],[0,1,1,1,1,1,1,1]],[0,3,6,11,12,13],3,⟨[.al 0 0,.fd (.int .i64),.al 2 0,.fd (.int .i64),.fd (.int .i64),.fd .bool],[CK.b0,CT.b1,⟨2,123,[.st 10],false⟩]⟩⟩
def CS.p:Aj:=⟨[(7,CS.q7),(11,CS.gA)],2,⟨[.al 0 0,.st 10,.fd (.int .i64),.fd (.int .i64),.fd .bool],[CK.b0,CT.b1]⟩,⟨[.fd (.int .i64)],[CK.b0,CT.b1]⟩,false,[(10,⟨[(0,true),(1,true),(2,true),(3,false),(4,true),(5,false),(6,false),(7,true),(8,true),(9,true),(10,true),(11,false),(12,true),(13,false),(14,true),(15,true)],[2000000],[0,1,3,7,0,16,63,127,255,511,1023,2047,255,8191,16383,32767],false⟩)],[]⟩
theorem CS.ok:AH Dop.D4 prog 123 CS.p=true:=by kernel_rfl
def FI.p:Aj:=⟨[],2,⟨[.al 0 0,.fd (.int .i64),.fd (.int .i64),.fd (.int .i64)],[CK.b0,CT.b1]⟩,⟨[.fd (.int .i64)],[CK.b0,CT.b1]⟩,false,[],[]⟩
theorem FI.ok:AH Dop.D4 prog 184 FI.p=true:=by kernel_rfl
def Lu.p:Aj:=⟨[],2,⟨[.al 0 0,.fd (.int .i64),.fd (.int .i64)],[CK.b0,CT.b1]⟩,⟨[.fd (.int .i64)],[CK.b0,CT.b1]⟩,false,[],[]⟩
theorem Lu.ok:AH Dop.D4 prog 185 Lu.p=true:=by kernel_rfl
abbrev DM.q2:Cut:=⟨[[0,0,0,0,0,1,0,1],[0,1,0,0,0,1,0,1],[0,1,0,0,1,0,1],[2,0,0,1,0,1],[1,0],[0,1,1]],[0,1,2,7],2,⟨[.al 0 0,.fd (.int .i64),.fd (.int .i64),.fd (.int .i64)],[CK.b0,CT.b1]⟩⟩
abbrev DM.aB:Cut:=⟨[[0,0,0,1,1,1,0,0,1,0,0,1,0,1],[0,1,0,1,1,1,0,0,1,0,0,1,0,1],[0,1,1,1,1,0,0,1,0,0,1,0,1],[1,1],[0,1,1,0,0,1,0,1],[2,0,0,1,0,1],[1,0],[0,1,1]],[0,1,2,7,9,10],2,⟨[.al 0 0,.fd (.int .i64),.fd (.int .i64),.fd (.int .i64),.fd (.int .i64),.fd (.int .i64)],[CK.b0,CT.b1]⟩⟩
def DM.p:Aj:=⟨[(2,DM.q2),(13,DM.aB)],2,⟨[.al 0 0,.fd (.int .i64),.fd (.int .i64)],[CK.b0,CT.b1]⟩,⟨[.fd (.int .i64)],[CK.b0,CT.b1]⟩,false,[(8,⟨[(0,true),(1,true),(2,true),(3,false),(4,true),(5,true),(6,true),(7,false),(8,true),(9,false),(10,false),(11,false),(12,false),(13,true),(14,true),(15,true),(16,true),(17,true)],[2000000],[0,1,3,7,0,16,48,112,0,256,1008,2032,4095,8191,16383,16383,32767,131071],false⟩),(10,⟨[(0,true),(1,true),(2,true),(3,false),(4,true),(5,true),(6,true),(7,false),(8,true),(9,false),(10,false),(11,false),(12,true),(13,false),(14,false),(15,true),(16,true),(17,true),(18,true),(19,true)],[2000000],[0,1,3,7,0,16,48,112,0,256,1008,2032,0,4096,16383,32767,65535,65535,131071,524287],false⟩),(12,⟨[(0,true),(1,true),(2,true),(3,false),(4,true),(5,false),(6,false),(7,true),(8,true),(9,true),(10,true),(11,true)],[2000000],[0,1,3,7,0,16,63,127,255,255,511,2047],false⟩)],[]⟩
theorem DM.ok:AH Dop.D4 prog 48 DM.p=true:=by kernel_rfl
def JY.p:Aj:=⟨[],2,⟨[.al 0 0,.st 10,.fd (.int .i64)],[CK.b0,CT.b1]⟩,⟨[.st 10],[CK.b0,CT.b1]⟩,false,[],[]⟩
theorem JY.ok:AH Dop.D4 prog 154 JY.p=true:=by kernel_rfl
abbrev H4.gA:Cut:=⟨[[0,0,1,1,1,1],[0,1,1,1,1,1]],[0,6,7,8,10,11],6,⟨[.al 0 0,.al 2 0,.al 3 0,.al 4 0,.al 5 0,.fd (.int .i64)],[CK.b0,CT.b1,⟨2,123,[.st 10],false⟩,⟨3,123,[.st 10],false⟩,⟨4,123,[.st 10],false⟩,⟨5,123,[.st 10],false⟩]⟩⟩
def H4.p:Aj:=⟨[(11,H4.gA)],2,⟨[.al 0 0,.st 10,.st 10,.st 10,.fd (.int .i64)],[CK.b0,CT.b1]⟩,⟨[.st 10],[CK.b0,CT.b1]⟩,false,[],[]⟩
theorem H4.ok:AH Dop.D4 prog 153 H4.p=true:=by kernel_rfl
def K4.p:Aj:=⟨[],2,⟨[.al 0 0,.fd (.int .i64),.fd (.int .i64)],[CK.b0,CT.b1]⟩,⟨[.fd (.int .i64)],[CK.b0,CT.b1]⟩,false,[],[]⟩
theorem K4.ok:AH Dop.D4 prog 187 K4.p=true:=by kernel_rfl
def Hb.p:Aj:=⟨[],2,⟨[.al 0 0,.st 10,.fd (.int .i64)],[CK.b0,CT.b1]⟩,⟨[.fd (.int .i64)],[CK.b0,CT.b1]⟩,false,[],[]⟩
theorem Hb.ok:AH Dop.D4 prog 124 Hb.p=true:=by kernel_rfl
def Ng.p:Aj:=⟨[],0,⟨[],[]⟩,⟨[.mp (.str) 14 true],[]⟩,true,[],[]⟩
theorem Ng.ok:AH Dop.D4 prog 182 Ng.p=true:=by kernel_rfl
def K3.p:Aj:=⟨[],2,⟨[.al 0 0,.st 10,.fd (.int .i64)],[CK.b0,CT.b1]⟩,⟨[.fd (.int .i64),.st 10],[CK.b0,CT.b1]⟩,false,[(2,⟨[(0,false),(1,true)],[2],[0,0,3],false⟩),(6,⟨[(0,true),(1,true),(2,true),(3,true),(4,false),(5,false),(6,true),(7,false),(8,true),(9,true),(10,true)],[11,1000000],[0,0,0,0,12,30,0,64,0,510,63,2047],false⟩)],[]⟩
theorem K3.ok:AH Dop.D4 prog 186 K3.p=true:=by kernel_rfl
abbrev Bt.q4:Cut:=⟨[[0,0,1,1,1],[0,1,1,1,1]],[0,1,4,7,8,10,11,12],5,⟨[.al 0 0,.fd .str,.fd (.int .i64),.al 2 0,.al 3 0,.al 4 0,.fd .bool,.fd .bool],[CK.b0,CT.b1,⟨2,123,[.st 10],false⟩,⟨3,123,[.st 10],false⟩,⟨4,123,[.st 10],false⟩]⟩⟩
abbrev Bt.WK:Cut:=⟨[[0,0,0,0,1,1,1,1,1,1,1,1],[0,1,0,0,1,1,1,1,1,1,1,1],[1,0],[0,1,1,1,1,1,1,1,1,1]],[0,1,4,7,8,10,11,12,13,14,16],6,⟨[.al 0 0,.fd .str,.fd (.int .i64),.al 2 0,.al 3 0,.al 4 0,.fd .bool,.fd .bool,.al 5 0,.fd .bool,.fd (.int .i64)],[CK.b0,CT.b1,⟨2,123,[.st 10],false⟩,⟨3,123,[.st 10],false⟩,⟨4,123,[.st 10],false⟩,⟨5,220,[.st 14],false⟩]⟩⟩
abbrev Bt.aB:Cut:=⟨[[0,0,0,1,0,1,0,0,1,1,1,1,1,1,1,1],[0,1,0,1,0,1,0,0,1,1,1,1,1,1,1,1],[0,1,1,0,1,0,0,1,1,1,1,1,1,1,1],[1,0],[0,1,1,1,1,1,1,1,1,1]],[0,1,7,8,10,13,16],6,⟨[.al 0 0,.fd .str,.al 2 0,.al 3 0,.al 4 0,.al 5 0,.fd (.int .i64)],[CK.b0,CT.b1,⟨2,123,[.st 10],false⟩,⟨3,123,[.st 10],false⟩,⟨4,123,[.st 10],false⟩,⟨5,220,[.st 14],false⟩]⟩⟩
abbrev Bt.gC:Cut:=⟨[[0,0,1,1,0,0,1,1,1,1,1,1,1,1],[0,1,1,1,0,0,1,1,1,1,1,1,1,1],[1,0],[0,1,1,1,1,1,1,1,1,1]],[0,1,4,7,8,10,11,12,13,16],6,⟨[.al 0 0,.fd .str,.fd (.int .i64),.al 2 0,.al 3 0,.al 4 0,.fd .bool,.fd .bool,.al 5 0,.fd (.int .i64)],[CK.b0,CT.b1,⟨2,123,[.st 10],false⟩,⟨3,123,[.st 10],false⟩,⟨4,123,[.st 10],false⟩,⟨5,220,[.st 14],false⟩]⟩⟩
abbrev Bt.pA:Cut:=⟨[[0,0,0,1,1,1,1,1,1,1,1,1,1],[0,1,0,1,1,1,1,1,1,1,1,1,1],[0,1,1,1,1,1,1,1,1,1,1,1]],[0,1,7,8,10,13,16,24],6,⟨[.al 0 0,.fd .str,.al 2 0,.al 3 0,.al 4 0,.al 5 0,.fd (.int .i64),.fd (.int .i64)],[CK.b0,CT.b1,⟨2,123,[.st 10],false⟩,⟨3,123,[.st 10],false⟩,⟨4,123,[.st 10],false⟩,⟨5,220,[.st 14],false⟩]⟩⟩
def Bt.p:Aj:=⟨[(4,Bt.q4),(10,Bt.WK),(13,Bt.aB),(16,Bt.gC),(33,Bt.pA)],2,⟨[.al 0 0,.fd .str,.st 10,.st 10,.fd (.int .i64)],[CK.b0,CT.b1]⟩,⟨[.st 10],[CK.b0,CT.b1]⟩,false,[(3,⟨[(0,true),(1,true),(2,false),(3,false),(4,true),(5,true),(6,true),(7,false),(8,false),(9,true),(10,true),(11,true)],[1000000],[0,0,2,7,15,0,0,64,239,495,511,2047],false⟩),(14,⟨[(0,true),(1,true),(2,false),(3,false),(4,true),(5,false),(6,true),(7,false),(8,false),(9,true)],[10,1000000],[0,0,2,6,0,16,0,64,255,511,1023],false⟩),(15,⟨[(0,true),(1,true),(2,false),(3,false),(4,true),(5,false),(6,true),(7,false),(8,false),(9,true)],[10,1000000],[0,0,2,6,0,16,0,64,255,511,1023],false⟩),(29,⟨[(0,true),(1,false),(2,false),(3,true),(4,false),(5,true),(6,true),(7,false),(8,true),(9,false),(10,false),(11,true),(12,false),(13,true)],[14,1000000],[0,0,2,0,8,0,0,64,0,480,1023,0,2048,8191,16383],false⟩),(31,⟨[(0,true),(1,false),(2,false),(3,true),(4,true),(5,false),(6,true),(7,false),(8,true),(9,false),(10,false),(11,true),(12,false),(13,true)],[14,1000000],[0,0,2,0,0,16,0,120,0,256,1023,0,2048,8191,16383],false⟩),(37,⟨[(0,true),(1,true),(2,false),(3,false),(4,true),(5,false),(6,true),(7,false),(8,false),(9,true),(10,true)],[11,1000000],[0,0,2,6,0,16,0,64,255,0,1023,2047],false⟩)],[]⟩
theorem Bt.ok:AH Dop.D4 prog 148 Bt.p=true:=by kernel_rfl
end Go.Proofs.Tryz
namespace Go.Proofs
open Go Go.En Go.RowKit
def Tryz.Ai.p:Aj:=⟨[],2,⟨[.al 0 0,.fd (.sl 0)],[CK.b0,CT.b1]⟩,⟨[.fd (.int .i64)],[CK.b0,CT.b1]⟩,false,[],[(87,[])]⟩
noncomputable def Tryz.Ai.E:Env En.Dop.D4:=AU Tryz.prog 63 Tryz.tb [Tryz.BX.c] Tryz.Ai.p
theorem Tryz.Ai.ok:AH En.Dop.D4 Tryz.prog 63 Tryz.Ai.p=true:=by kernel_rfl
abbrev I0:En.Spec:=⟨[],[CK.b0,CT.b1,⟨2,75,[.al 0 0],false⟩,⟨3,3,[.fd (.int .i64)],false⟩]⟩
abbrev mb:En.Spec:=⟨[.al 2 0,.al 3 0,.fd (.int .i64)],[CK.b0,CT.b1,⟨2,75,[.al 0 0],false⟩,⟨3,3,[.fd (.int .i64)],false⟩]⟩
noncomputable def Tryz.Ai.step (x:Int) (y:En.Spec.D En.Dop.D4 I0):Option (En.Spec.D En.Dop.D4 I0):=
 (UU Tryz.Ai.E 3000 [1,0,1,0,1,1] (BJ (AY Tryz.prog 63) [1,0,1,0,1,1]) mb I0 [2,5,7] 4 (((),(),x,()),y.2)).eval (fun _ _=>none)
noncomputable abbrev mZ:Code:=BJ (AY Tryz.prog 63) [0,0,1,0,1,1]
noncomputable abbrev nK:Code:=BJ (AY Tryz.prog 63) [1,0,1,0,1,1]
noncomputable abbrev ma:Code:=BJ (AY Tryz.prog 63) [1,1,1]
noncomputable def Tryz.Ai.go:List Int->En.Spec.D En.Dop.D4 I0->Option (En.Spec.D En.Dop.D4 I0)
 | [],y=>some y
 | x::r,y=>(Tryz.Ai.step x y).bind (Tryz.Ai.go r)
theorem Tryz.Ai.JM: ∀ (l r:List Int) (y:En.Spec.D En.Dop.D4 I0),Tryz.Ai.go (l++r) y=(Tryz.Ai.go l y).bind (Tryz.Ai.go r)
 | [],r,y=>rfl
 | x::l,r,y=>by
  simp only [List.cons_append,Tryz.Ai.go]
  cases Tryz.Ai.step x y with
  | none=>rfl
  | some z=>exact Tryz.Ai.JM l r z
noncomputable def Tryz.Ai.R (x:En.Spec.D En.Dop.D4 Tryz.Ai.p.sp):Option (En.Spec.D En.Dop.D4 Tryz.Ai.p.rs):=
 match decide (x.1.2.1.length<9223372036854775807) with
 | true=>(Tryz.Ai.go x.1.2.1.reverse ((),(x.2.1,x.2.2.1,((),()),(-1,()),()))).bind fun y=>some ((y.2.2.2.2.1.1,()),(y.2.1,y.2.2.1,()))
 | false=>none
noncomputable def Tryz.Ai.c:BU En.Dop.D4:=⟨63,Tryz.Ai.p.bn,Tryz.Ai.p.sp,Tryz.Ai.p.rs,Tryz.Ai.p.flat,.opt Tryz.Ai.R⟩
noncomputable def ij (l:List Int) (x:En.Spec.D En.Dop.D4 ⟨[],[CK.b0,CT.b1]⟩):St En.Dop.D4:=match En.Spec.enc (S:=En.Dop.D4) ⟨[.al 0 0,.fd (.sl 0)],[CK.b0,CT.b1]⟩ (((),l,()),x.2) 2 with
 | (_,o,_)=>⟨[(0,.ptr 0 0),(1,.h 2),(2,.ptr 17 0),(4,.v (.int .i64 0)),(5,.ptr 18 0),(8,.h 2),(9,.fn 120 [.ptr 19 0])],(19,.AX 22 [.h 2])::(18,.AX 3 [.v (.int .i64 (-1))])::(17,.AX 75 [.ptr 0 0])::o,20,17⟩
theorem Tryz.Ai.part (l:List Int) (x:En.Spec.D En.Dop.D4 ⟨[],[CK.b0,CT.b1]⟩) (vs:List SV) (o:List (Nat×En.Own En.Dop.D4)) (n:Nat) (h:En.Spec.enc (S:=En.Dop.D4) ⟨[.al 0 0,.fd (.sl 0)],[CK.b0,CT.b1]⟩ (((),l,()),x.2) 2=(vs,o,n)):
  PG Tryz.Ai.E 3000 [.code [] (AY Tryz.prog 63)] ⟨Bx 0 vs,o,n,17⟩=.ret ([.code [0,1,0,1,1] (.rangeFunc (.tmp 9) #[10,11] mZ nK),.AX 0,.code [1,1,1] ma],ij l x):=by
 cases h
 kernel_rfl
noncomputable def XJ:Oper:=match mZ with
 | .region _ ⟨o::_⟩ _=>o
 | _=>default
theorem eO:mZ=.region 3 #[XJ] false:=by kernel_rfl
theorem UZ:XJ.op=.assign (.tmp 11):=by kernel_rfl
theorem Mw:XJ.dst=some 7:=by kernel_rfl
theorem S5:XJ.guard=none:=by kernel_rfl
noncomputable def XK:Array Oper:=match ma with
 | .seq (.region _ o _) _=>o
 | _=>#[]
theorem eQ:ma=.seq (.region 5 XK false) .ret:=by kernel_rfl
theorem eP:Hk (AY Tryz.prog 63) [1,0,1,0,1,1]=some nK:=by kernel_rfl
theorem jQ:Nv (AY Tryz.prog 63)=true:=by kernel_rfl
theorem Vm (l:List Int) (x:En.Spec.D En.Dop.D4 ⟨[],[CK.b0,CT.b1]⟩):((En.Spec.parse (S:=En.Dop.D4) ⟨[.al 2 0,.al 3 0],I0.bx⟩ true [.ptr 17 0,.ptr 18 0] (ij l x).o (RQ 2) 4).map fun r=>(r.1,lk r.2.o 19,r.2.bl,lk r.2.m 2,lk r.2.m 3,lk r.2.m 0,lk r.2.m 1))=
  some ((((),(),()),(x.2.1,x.2.2.1,((),()),(-1,()),())),some (.AX 22 [.h 2]),[],some 17,some 18,some 0,some 1):=by kernel_rfl
theorem XM (l:List Int) (x:En.Spec.D En.Dop.D4 ⟨[],[CK.b0,CT.b1]⟩): ∃ ps,En.Spec.parse (S:=En.Dop.D4) ⟨[.al 2 0,.al 3 0],I0.bx⟩ true [.ptr 17 0,.ptr 18 0] (ij l x).o (RQ 2) 4=some ((((),(),()),(x.2.1,x.2.2.1,((),()),(-1,()),())),ps)/\lk ps.o 19=some (.AX 22 [.h 2])/\ps.bl=[]/\lk ps.m 2=some 17/\lk ps.m 3=some 18/\lk ps.m 0=some 0/\lk ps.m 1=some 1:=by
 obtain ⟨⟨d,ps⟩,h1,h2⟩:=Option.map_eq_some_iff.1 (Vm l x)
 simp only [bi] at h2
 obtain ⟨h3,h4,h5,h6,h7,h8,h9⟩:=h2
 exact ⟨ps,h1.trans (by rw [<-h3]),h4,h5,h6,h7,h8,h9⟩
theorem eS (y:En.Spec.D En.Dop.D4 I0):PG Tryz.Ai.E 3000 [.ops XK XK.toList] ⟨[(2,.ptr 2 0),(5,.ptr 3 0)],(I0.enc (S:=En.Dop.D4) y 4).2.1,(I0.enc (S:=En.Dop.D4) y 4).2.2,17⟩=
  .ret ([],⟨[(2,.ptr 2 0),(5,.ptr 3 0),(16,.v (.int .i64 y.2.2.2.2.1.1)),(4,.v (.int .i64 y.2.2.2.2.1.1))],(I0.enc (S:=En.Dop.D4) y 4).2.1,(I0.enc (S:=En.Dop.D4) y 4).2.2,17⟩):=by kernel_rfl
theorem eT (y:En.Spec.D En.Dop.D4 I0): ∃ ps,En.Spec.parse (S:=En.Dop.D4) ⟨[.fd (.int .i64)],[CK.b0,CT.b1]⟩ true [.v (.int .i64 y.2.2.2.2.1.1)] (I0.enc (S:=En.Dop.D4) y 4).2.1 (RQ 2) 2=some (((y.2.2.2.2.1.1,()),(y.2.1,y.2.2.1,())),ps)/\lk ps.m 0=some 0/\lk ps.m 1=some 1:=by
 have h:((En.Spec.parse (S:=En.Dop.D4) ⟨[.fd (.int .i64)],[CK.b0,CT.b1]⟩ true [.v (.int .i64 y.2.2.2.2.1.1)] (I0.enc (S:=En.Dop.D4) y 4).2.1 (RQ 2) 2).map fun r=>(r.1,lk r.2.m 0,lk r.2.m 1))=some (((y.2.2.2.2.1.1,()),(y.2.1,y.2.2.1,())),some 0,some 1):=by kernel_rfl
 obtain ⟨⟨d,ps⟩,h1,h2⟩:=Option.map_eq_some_iff.1 h
 simp only [bi] at h2
 obtain ⟨h3,h4,h5⟩:=h2
 exact ⟨ps,h1.trans (by rw [<-h3]),h4,h5⟩
theorem nM:(Tryz.Ai.E).Ok Tryz.prog/\B9 Tryz.prog 63=true/\Tryz.Ai.p.sp.okB Tryz.Ai.p.bn=true/\ ∃ fn,Tryz.prog.funcs[63]?=some fn/\fn.body=some (AY Tryz.prog 63)/\fn.ntmps=17/\fn.results=#[.tmp 4]:=by
 obtain ⟨h1,h2,h3,fn,h4,h5,h6,h7⟩:=G1 (p:=Tryz.Ai.p) Tryz.AJ (AS Tryz.BX.holds Am) Tryz.Ai.ok
 have e1:Cw Tryz.prog 63=17:=by kernel_rfl
 have e2:EL Tryz.prog 63=[.tmp 4]:=by kernel_rfl
 refine ⟨h1,h2,h3,fn,h4,h5,h6.trans e1,?_⟩
 rw [e2] at h7
 rw [<-h7]
theorem Vl {l:Nat} {x:Int×Int} {W:World} {a:Act} {K:Act->World->Prop} (hsz:a.tmps.size=17)
  (h: ∀ a':Act,a'.defers=[]->a'.tmps.size=17->(∀ t,t≠7->t≠10->t≠11->a'.tmps.getD t undef=a.tmps.getD t undef)->a'.tmps.getD 7 undef=.int .i64 x.2->K a' W):
  mZ.wpIn (Fence.wide.inRound l) 0 Tryz.prog (Exit.then K (fun _ _ _=>False)) { tmps:=(#[10,11].zip #[Value.int .i64 x.1,Value.int .i64 x.2]).foldl (fun t (p,v)=>t.setIfInBounds p v) a.tmps,defers:=[] } W:=by
 rw [eO]
 refine FT (.inr ⟨⟨l,rfl⟩,fun ⟨_,_,h⟩=>h,fun j o ho=>?_⟩) ?_
 ·cases j with
  | zero=>simp at ho;subst ho;unfold E5;rw [UZ]
  | succ j=>simp at ho
 ·show wpList _ _ _ [XJ] _ _
  unfold wpList
  rw [if_pos (by simp [Region.wanted,S5])]
  refine .inl (Aq (v:=.int .i64 x.2) (w':=W) ?_ ?_)
  ·simp [execOp,UZ,Act.eval,hsz]
  ·refine h _ rfl (by simp [Act.put,Mw,hsz]) (fun t h1 h2 h3=>?_) ?_
   ·simp [Act.put,Mw,lm,ge,Ne.symm h1,Ne.symm h2,Ne.symm h3]
   ·simp [Act.put,Mw,lm,ge,hsz]
def nO (w0 W:World) (F D0 K:Nat->Prop) (β2:Nat->Nm) (y0:En.Spec.D En.Dop.D4 I0) (pre:List (Int×Int)) (W':World):Prop:=
 ∃ y,Tryz.Ai.go (pre.map Prod.snd) y0=some y/\OY w0 W F D0 K I0 4 β2 W.heap.size y W'
theorem aN {w0 W W':World} {F D0 K:Nat->Prop} {β2:Nat->Nm} {y0 yq:En.Spec.D En.Dop.D4 I0} (hkp:CF En.Dop.D4 w0 F D0) {xs pre rest:List (Int×Int)} {x:Int×Int} (hgo:Tryz.Ai.go (xs.map Prod.snd) y0=some yq) (hxs:xs=pre++x::rest) (hI:nO w0 W F D0 K β2 y0 pre W')
  {a':Act} (hd:a'.defers=[]) (hsz:a'.tmps.size=17) (h2:a'.tmps.getD 2 undef=.pointer (some ⟨(β2 2).AX,0,none⟩)) (h5:a'.tmps.getD 5 undef=.pointer (some ⟨(β2 3).AX,0,none⟩)) (h7:a'.tmps.getD 7 undef=.int .i64 x.2) (l:Nat):
  nK.wpIn (Fence.wide.inRound l) 0 Tryz.prog (Mc W.heap.size (nO w0 W F D0 K β2 y0) (fun _ _ _=>False) (pre++[x]) W') a' W':=by
 obtain ⟨y,hy,D,β,vs,o,n,e1,e2,e3,e4,e5,e6,e7,e8,e9⟩:=hI
 obtain ⟨hE,_,_,_⟩:=nM
 have hst: ∃ y',Tryz.Ai.step x.2 y=some y':=by
  rw [hxs,List.map_append,Tryz.Ai.JM,hy] at hgo
  simp only [Option.bind_some,List.map_cons,Tryz.Ai.go] at hgo
  cases hs:Tryz.Ai.step x.2 y with
  | none=>rw [hs] at hgo;cases hgo
  | some y'=>exact ⟨y',rfl⟩
 obtain ⟨y',hy'⟩:=hst
 have he:mb.enc (S:=En.Dop.D4) (((),(),x.2,()),y.2) 4=([.ptr 2 0,.ptr 3 0,.v (.int .i64 x.2)],o,n):=by
  have h:mb.enc (S:=En.Dop.D4) (((),(),x.2,()),y.2) 4=([.ptr 2 0,.ptr 3 0,.v (.int .i64 x.2)],(I0.enc (S:=En.Dop.D4) y 4).2.1,(I0.enc (S:=En.Dop.D4) y 4).2.2):=by kernel_rfl
  rw [h,e1]
 refine UW hE (f0:=3000) (adr:=[1,0,1,0,1,1]) eP jQ (sp:=mb) (qe:=I0) (ts:=[2,5,7]) (bn:=4) (by kernel_rfl) (x:=(((),(),x.2,()),y.2)) (y:=y') hy' he e3.base ?_ e4 (e3.inv hkp) hd hsz ?_ (fun _ _ _ h=>h) (fun ⟨_,_,h⟩=>h) ?_ l
 ·simp only [BZ,SV.on,and_true]
  omega
 ·intro j t v hj hv
  match j with
  | 0=>
   simp only [List.getElem?_cons_zero,am] at hj hv;subst hj;subst hv
   exact ⟨by show 2<17;omega,by rw [h2,<- e2 2 (by omega)];simp only [SV.den]⟩
  | 1=>
   simp only [List.getElem?_cons_succ,List.getElem?_cons_zero,am] at hj hv;subst hj;subst hv
   exact ⟨by show 5<17;omega,by rw [h5,<- e2 3 (by omega)];simp only [SV.den]⟩
  | 2=>
   simp only [List.getElem?_cons_succ,List.getElem?_cons_zero,am] at hj hv;subst hj;subst hv
   exact ⟨by show 7<17;omega,by rw [h7];simp only [SV.den]⟩
  | j+3=>simp at hj
 ·intro a'' W'' D' β' vs' o' n' f1 f2 f3 f4
  obtain ⟨g1,g2⟩:=OY.next e3 e2 e5 e6 e7 e8 e9 f1 f2 f3 f4
  refine ⟨g1,y',?_,g2⟩
  rw [List.map_append,Tryz.Ai.JM,hy]
  simp only [Option.bind_some,List.map_cons,List.map_nil,Tryz.Ai.go,hy']
theorem aO {w:World} {D:Nat->Prop} {β:Nat->Nm} {o0:List (Nat×En.Own En.Dop.D4)} (hkp:CF En.Dop.D4 w (AL o0 β) D) {fn:Func} (hres:fn.results=#[.tmp 4]) {W W':World} {K:Nat->Prop} {β2:Nat->Nm} {yq:En.Spec.D En.Dop.D4 I0} (hβ: ∀ i,i<2->β2 i=β i) (hm:OY w W (AL o0 β) D K I0 4 β2 W.heap.size yq W')
  {a:Act} (hd:a.defers=[]) (hsz:a.tmps.size=17) (h2:a.tmps.getD 2 undef=.pointer (some ⟨(β2 2).AX,0,none⟩)) (h5:a.tmps.getD 5 undef=.pointer (some ⟨(β2 3).AX,0,none⟩)) (hK:W'.heap[W.heap.size]?=some (.deferred (some []))):
  ma.wpIn Fence.wide 0 Tryz.prog (Lv (bodyPostM Fence.wide 2 Tryz.prog fn (Ds (S:=En.Dop.D4) Tryz.Ai.c ((yq.2.2.2.2.1.1,()),(yq.2.1,yq.2.2.1,())) w D β o0))) { a with defers:={ target:=.collected W.heap.size,args:=#[] }::a.defers } W':=by
 obtain ⟨D',β',vs,o,n,e1,e2,e3,e4,e5,e6,e7,e8,e9⟩:=hm
 obtain ⟨hE,_,_,_⟩:=nM
 refine wpIn_wide.2 ?_
 rw [eQ]
 refine wp_seq (wp_region_list ?_)
 have hkp':=e3.keeps hkp
 have ho:o=(I0.enc (S:=En.Dop.D4) yq 4).2.1:=by rw [e1]
 have hn:n=(I0.enc (S:=En.Dop.D4) yq 4).2.2:=by rw [e1]
 have hv:=KQ hE (w0:=W') (F:=AL o β') (D0:=D') (bn:=4) (β0:=β') (f0:=3000) (k0:=[.ops XK XK.toList]) (s0:=⟨[(2,.ptr 2 0),(5,.ptr 3 0)],o,n,17⟩)
  (Q:=fun e a' w'=>match e with
   | .normal=>a'.defers=[]/\a'.tmps.getD 4 undef=.int .i64 yq.2.2.2.2.1.1/\ ∃ D2 β3,(∀ i,i<4->β3 i=β' i)/\GH W' (AL o β') D' D2 o (· <n) β3 w'
   | _=>False) hkp' (fun _ _ _ _ _ h=>h) e4 rfl (fun z hz=>by
    simp only [List.mem_cons,List.not_mem_nil,or_false] at hz
    subst hz;trivial) (by
   subst ho;subst hn
   rw [eS]
   intro _ _ D2 β3 a' w' hag hg
   refine ⟨hg.defers,by rw [hg.tmps 4 (.v (.int .i64 yq.2.2.2.2.1.1)) rfl];simp only [SV.den],D2,β3,hag,hg.gh⟩)
 have hl:=hv D' β' { a with defers:=[] } W' (fun _ _=>rfl) ⟨rfl,hsz,fun t x hx=>?_,fun t x hx=>?_,e3.base⟩
 ·simp only [List.map_cons,List.map_nil,Bp.it,after] at hl
  have hl2:=DU (ds:=[{ target:=.collected W.heap.size,args:=#[] }]) (Q':=Exit.then (Code.ret.wp Tryz.prog (Lv (bodyPostM Fence.wide 2 Tryz.prog fn (Ds (S:=En.Dop.D4) Tryz.Ai.c ((yq.2.2.2.2.1.1,()),(yq.2.1,yq.2.2.1,())) w D β o0)))) (Lv (bodyPostM Fence.wide 2 Tryz.prog fn (Ds (S:=En.Dop.D4) Tryz.Ai.c ((yq.2.2.2.2.1.1,()),(yq.2.1,yq.2.2.1,())) w D β o0)))) ?_ (fun _ _ _ h=>h.elim) (fun ⟨_,_,h⟩=>h) hl
  ·rw [hd];exact hl2
  ·rintro a' w' ⟨hd',hr,D2,β3,hag,hgh⟩
   refine wp_ret ?_
   obtain ⟨g1,g2⟩:=OY.next e3 e2 e5 e6 e7 e8 e9 e1 hag hgh e4
   have hK':=(g1 W.heap.size (.inl rfl)).trans hK
   show LeavesInM _ _ _ _ _ _ _ _ _
   rw [hd']
   refine ⟨by simp,.inl ⟨_,_,rfl,run_takeDeferred hK',?_⟩⟩
   refine ⟨.int .i64 yq.2.2.2.2.1.1,by rw [<-hr];exact results_tmp hres _ _ _,?_⟩
   obtain ⟨D4,β4,vs4,o4,n4,f1,f2,f3,f4,_⟩:=g2.VX (.deferred none)
   rcases he:En.Spec.enc (S:=En.Dop.D4) ⟨[.fd (.int .i64)],[CK.b0,CT.b1]⟩ ((yq.2.2.2.2.1.1,()),(yq.2.1,yq.2.2.1,())) 2 with ⟨rs,o5,n5⟩
   have ho4:o4=(I0.enc (S:=En.Dop.D4) yq 4).2.1:=by rw [f1]
   obtain ⟨ps,hps,hm0,hm1⟩:=eT yq
   rw [<-ho4] at hps
   obtain ⟨β5,b1,b2,b3,b4,b5,_⟩:=En.Spec.CO f3 hps (by kernel_rfl) he
   have hrs:rs=[.v (.int .i64 yq.2.2.2.2.1.1)]:=by
    have h:En.Spec.enc (S:=En.Dop.D4) ⟨[.fd (.int .i64)],[CK.b0,CT.b1]⟩ ((yq.2.2.2.2.1.1,()),(yq.2.1,yq.2.2.1,())) 2=([.v (.int .i64 yq.2.2.2.2.1.1)],(En.Spec.enc (S:=En.Dop.D4) ⟨[.fd (.int .i64)],[CK.b0,CT.b1]⟩ ((yq.2.2.2.2.1.1,()),(yq.2.1,yq.2.2.1,())) 2).2.1,(En.Spec.enc (S:=En.Dop.D4) ⟨[.fd (.int .i64)],[CK.b0,CT.b1]⟩ ((yq.2.2.2.2.1.1,()),(yq.2.1,yq.2.2.1,())) 2).2.2):=by kernel_rfl
    rw [he] at h
    exact (Prod.mk.inj h).1
   refine ⟨_,β5,rs,o5,n5,he,?_,fun i hi=>?_,b2,b4,b5⟩
   ·rw [hrs];simp only [Ay,SV.den]
   ·have hi2:i<2:=hi
    have hmi:lk ps.m i=some i:=by
     match i,hi2 with
     | 0,_=>exact hm0
     | 1,_=>exact hm1
    rw [b1 i hi2 i hmi,f2 i (by omega),hβ i hi2]
 all_goals
  simp only [AK] at hx
  split at hx
  ·rename_i he;subst he;cases hx
   first
    | (refine ⟨by show 2<17;omega,?_⟩;simp only [SV.on];omega)
    | (rw [show ({ a with defers:=[] }:Act).tmps.getD 2 undef=a.tmps.getD 2 undef from rfl,h2,<- e2 2 (by omega)];simp only [SV.den])
  ·split at hx
   ·rename_i he;subst he;cases hx
    first
     | (refine ⟨by show 5<17;omega,?_⟩;simp only [SV.on];omega)
     | (rw [show ({ a with defers:=[] }:Act).tmps.getD 5 undef=a.tmps.getD 5 undef from rfl,h5,<- e2 3 (by omega)];simp only [SV.den])
   ·simp [AW] at hx
theorem Q5 (args:Array Value) (w:World):(callFunc 120 args).run Tryz.prog w=.ok (.enter 120 args) w:=Cv (by kernel_rfl)
theorem Tryz.Ai.holds:Tryz.Ai.c.Holds Tryz.prog:=by
 obtain ⟨hE,hbod,hokB,fn,hf,hb,hn',hres⟩:=nM
 refine ⟨hbod,hokB,fun h=>(by cases h),fun x y hxy w D β vs o n he hg hon hn hiv=>?_⟩
 have hxy:Tryz.Ai.R x=some y:=hxy
 unfold Tryz.Ai.R at hxy
 split at hxy
 case h_2=>cases hxy
 rename_i hl
 have hl:=ip hl
 obtain ⟨yq,hgo,hy⟩:=Option.bind_eq_some_iff.1 hxy
 cases hy
 have hkp:CF En.Dop.D4 w (AL o β) D:=⟨hiv,fun k hk=>⟨hg.DL k hk,fun ⟨i,b,hi,hik⟩=>hg.off i b k hi hik hk⟩⟩
 have hx:x=(((),x.1.2.1,()),x.2):=rfl
 have he':En.Spec.enc (S:=En.Dop.D4) ⟨[.al 0 0,.fd (.sl 0)],[CK.b0,CT.b1]⟩ (((),x.1.2.1,()),x.2) 2=(vs,o,n):=he
 have hlen:vs.length=2:=En.Spec.Ah he
 refine VC.TC (M:=0+3000) (bn:=2) hf hb hn' (by omega) hon hg ?_
 refine KQ hE hkp (fun _ _ _ _ _ h=>h) (k0:=[.code [] (AY Tryz.prog 63)]) (s0:=⟨Bx 0 vs,o,n,17⟩) hn rfl (fun z hz=>by
  simp only [List.mem_cons,List.not_mem_nil,or_false] at hz
  subst hz;rfl) ?_
 rw [Tryz.Ai.part x.1.2.1 ((),x.2) vs o n he']
 intro _ _ D1 β1 a W hβ1 hg1
 simp only [List.map_cons,List.map_nil,Bp.it,after]
 obtain ⟨ps,hps,hp7,hpbl,hm1,hm2,hm0,hm01⟩:=XM x.1.2.1 ((),x.2)
 rcases hq:I0.enc (S:=En.Dop.D4) ((),(x.2.1,x.2.2.1,((),()),(-1,()),())) 4 with ⟨vq,o2,n2⟩
 have he2:En.Spec.enc (S:=En.Dop.D4) ⟨[.al 2 0,.al 3 0],I0.bx⟩ (((),(),()),(x.2.1,x.2.2.1,((),()),(-1,()),())) 4=([.ptr 2 0,.ptr 3 0],o2,n2):=by
  have h:En.Spec.enc (S:=En.Dop.D4) ⟨[.al 2 0,.al 3 0],I0.bx⟩ (((),(),()),(x.2.1,x.2.2.1,((),()),(-1,()),())) 4=([.ptr 2 0,.ptr 3 0],(I0.enc (S:=En.Dop.D4) ((),(x.2.1,x.2.2.1,((),()),(-1,()),())) 4).2.1,(I0.enc (S:=En.Dop.D4) ((),(x.2.1,x.2.2.1,((),()),(-1,()),())) 4).2.2):=by kernel_rfl
  rw [h,hq]
 obtain ⟨β2,b1,b2,_,_,b5,b6,b7,_,_⟩:=En.Spec.CO hg1.gh hps (by kernel_rfl) he2
 have r1:=b1 2 (by omega) 17 hm1
 have r2:=b1 3 (by omega) 18 hm2
 have r0:=b1 0 (by omega) 0 hm0
 have dQ:=b1 1 (by omega) 1 hm01
 obtain ⟨Bs,hBs,hBh⟩:=hg1.gh.own 19 _ (show lk (ij x.1.2.1 ((),x.2)).o 19=some (.AX 22 [.h 2]) from rfl)
 obtain ⟨_,hrow⟩:=hg1.gh.own 2 _ (show lk (ij x.1.2.1 ((),x.2)).o 2=some (.sl 0 x.1.2.1) by kernel_rfl)
 have A5:(β1 19).AX=Bs:=by unfold Nm.AX;rw [hBs];rfl
 have hBs':Bs<W.heap.size:=(Array.getElem?_eq_some_iff.1 hBh).1
 have hgd:=b2.jI (r:=Bs) (fun i b hi hk=>b6 19 _ i b Bs hp7 (by rw [hpbl];simp) hi (Nm.E7 hBs) hk) hBs' (hg1.gh.fresh 19 _ Bs (show lk (ij x.1.2.1 ((),x.2)).o 19=some (.AX 22 [.h 2]) from rfl) (Nm.E7 hBs))
 have hrd: ∀ W':World,(∀ k,(FW D1 β1 ps.bl k\/k=Bs)->W'.heap[k]?=W.heap[k]?)->de Bs x.1.2.1 W':=fun W' hs=>by
  have hc:W'.cell? ⟨Bs,0,none⟩=some ((β1 2).sl):=by
   rw [World.cell?_of_block (w:=W) (hs Bs (.inr rfl))]
   unfold World.cell?
   rw [hBh]
   simp [AD,SV.den]
  rcases SD hrow with ⟨h1,a',c,h2⟩|⟨b,off,cap,h2,h3,h4⟩
  ·exact .inl ⟨h1,a',c,by rw [hc,h2]⟩
  ·exact .inr ⟨b,off,cap,by rw [hc,h2],fun j hj=>by rw [World.cell?_of_block (w:=W) (hs b (.inl (.inl h3)))];exact h4 j hj⟩
 have t2:a.tmps.getD 2 undef=.pointer (some ⟨(β2 2).AX,0,none⟩):=by rw [hg1.tmps 2 (.ptr 17 0) rfl,r1];simp only [SV.den]
 have t5:a.tmps.getD 5 undef=.pointer (some ⟨(β2 3).AX,0,none⟩):=by rw [hg1.tmps 5 (.ptr 18 0) rfl,r2];simp only [SV.den]
 have hsz:a.tmps.size=17:=hg1.size
 have hgo':Tryz.Ai.go ((bwd x.1.2.1).map Prod.snd) ((),(x.2.1,x.2.2.1,((),()),(-1,()),()))=some yq:=by rw [UX];exact hgo
 refine wpIn_wide.2 (wpIn_wide.1 (LA (gf:=120) (lb:=#[.pointer (some ⟨Bs,0,none⟩)]) ?_ Q5 (Tryz.US Bs x.1.2.1 hl) (fun _=>rfl)
  (nO w W (AL o β) D (fun k=>FW D1 β1 ps.bl k\/k=Bs) β2 ((),(x.2.1,x.2.2.1,((),()),(-1,()),()))) (fun _ _ _=>False) (fun pre W' ob ⟨y,h1,h2⟩ hlt=>⟨y,h1,OY.Zs y W' ob h2 hlt⟩) (fun _ _ _ _ h _=>h)
  (fun pre W' ⟨_,_,_,_,_,_,_,_,_,_,_,_,_,_,_,h9⟩=>hrd W' h9) (fun ob ob'=>⟨_,rfl,OY.first hq hgd b5 (fun _ h=>h) ob ob'⟩)
  (fun x' a'=>a'.defers=[]/\a'.tmps.size=17/\a'.tmps.getD 2 undef=.pointer (some ⟨(β2 2).AX,0,none⟩)/\a'.tmps.getD 5 undef=.pointer (some ⟨(β2 3).AX,0,none⟩)/\a'.tmps.getD 7 undef=.int .i64 x'.2) ?_ ?_ ?_ ?_))
 ·rw [show a.eval (.tmp 9)=a.tmps.getD 9 undef from rfl,hg1.tmps 9 (.fn 120 [.ptr 19 0]) rfl]
  simp only [SV.den,AD,Eb (show Nat.ble 1000000 120=false from rfl),A5]
 ·intro l x' W' K hK
  exact Vl hsz fun a' h1 h2 h3 h4=>hK a' ⟨h1,h2,by rw [h3 2 (by decide) (by decide) (by decide)];exact t2,by rw [h3 5 (by decide) (by decide) (by decide)];exact t5,h4⟩
 ·rintro pre x' rest a' W' hxs _ hI ⟨h1,h2,h3,h4,h5⟩
  exact aN hkp hgo' hxs hI h1 h2 h3 h4 h5 _
 ·rintro W' ⟨y,h1,h2⟩ hK
  rw [hgo'] at h1
  cases h1
  simp only [after,Exit.inBlock]
  exact aO hkp hres (fun i hi=>by
   match i,hi with
   | 0,_=>rw [r0];exact hβ1 0 (by omega)
   | 1,_=>rw [dQ];exact hβ1 1 (by omega)) h2 hg1.defers hsz t2 t5 hK
 ·exact fun _ _ _ _ h=>h.elim
end Go.Proofs
