/- What the boxes of some types hold: as one, with names of the parts. Written by a program. -/
import Derived.Test.YtkpggdcpaeanaaaGreatDoorMj
set_option linter.all false
namespace Go.Proofs
open Go Go.En
abbrev CK:Type:=En.Dop.G2×Unit×List (Int)×List (En.Dop.Eh)×List (En.Dop.Nl)×Int×List (En.Dop.AU)×List (List (List UInt8×En.Dop.Da))×List (List UInt8×En.Dop.QF)×List (List UInt8×Int)×En.Dop.Eh×Int×List (List UInt8×Int)×List (List UInt8×Int)×Int×List (List (Int×Int))×Int×Int×Int×Unit
abbrev CK.t (k:CK):En.Dop.G2:=k.1
abbrev CK.kj (k:CK) (v:En.Dop.G2):CK:=(v,k.2)
abbrev CK.num (k:CK):List (Int):=k.2.2.1
abbrev CK.NX (k:CK) (v:List (Int)):CK:=(k.1,k.2.1,v,k.2.2.2)
abbrev CK.funcs (k:CK):List (En.Dop.Eh):=k.2.2.2.1
abbrev CK.Jt (k:CK) (v:List (En.Dop.Eh)):CK:=(k.1,k.2.1,k.2.2.1,v,k.2.2.2.2)
abbrev CK.globals (k:CK):List (En.Dop.Nl):=k.2.2.2.2.1
abbrev CK.FF (k:CK) (v:List (En.Dop.Nl)):CK:=(k.1,k.2.1,k.2.2.1,k.2.2.2.1,v,k.2.2.2.2.2)
abbrev CK.top (k:CK):Int:=k.2.2.2.2.2.1
abbrev CK.Oc (k:CK) (v:Int):CK:=(k.1,k.2.1,k.2.2.1,k.2.2.2.1,k.2.2.2.2.1,v,k.2.2.2.2.2.2)
abbrev CK.nodes (k:CK):List (En.Dop.AU):=k.2.2.2.2.2.2.1
abbrev CK.EY (k:CK) (v:List (En.Dop.AU)):CK:=(k.1,k.2.1,k.2.2.1,k.2.2.2.1,k.2.2.2.2.1,k.2.2.2.2.2.1,v,k.2.2.2.2.2.2.2)
abbrev CK.names (k:CK):List (List (List UInt8×En.Dop.Da)):=k.2.2.2.2.2.2.2.1
abbrev CK.Ct (k:CK) (v:List (List (List UInt8×En.Dop.Da))):CK:=(k.1,k.2.1,k.2.2.1,k.2.2.2.1,k.2.2.2.2.1,k.2.2.2.2.2.1,k.2.2.2.2.2.2.1,v,k.2.2.2.2.2.2.2.2)
abbrev CK.sigs (k:CK):List (List UInt8×En.Dop.QF):=k.2.2.2.2.2.2.2.2.1
abbrev CK.I8 (k:CK) (v:List (List UInt8×En.Dop.QF)):CK:=(k.1,k.2.1,k.2.2.1,k.2.2.2.1,k.2.2.2.2.1,k.2.2.2.2.2.1,k.2.2.2.2.2.2.1,k.2.2.2.2.2.2.2.1,v,k.2.2.2.2.2.2.2.2.2)
abbrev CK.taken (k:CK):List (List UInt8×Int):=k.2.2.2.2.2.2.2.2.2.1
abbrev CK.ah (k:CK) (v:List (List UInt8×Int)):CK:=(k.1,k.2.1,k.2.2.1,k.2.2.2.1,k.2.2.2.2.1,k.2.2.2.2.2.1,k.2.2.2.2.2.2.1,k.2.2.2.2.2.2.2.1,k.2.2.2.2.2.2.2.2.1,v,k.2.2.2.2.2.2.2.2.2.2)
abbrev CK.f (k:CK):En.Dop.Eh:=k.2.2.2.2.2.2.2.2.2.2.1
abbrev CK.eT (k:CK) (v:En.Dop.Eh):CK:=(k.1,k.2.1,k.2.2.1,k.2.2.2.1,k.2.2.2.2.1,k.2.2.2.2.2.1,k.2.2.2.2.2.2.1,k.2.2.2.2.2.2.2.1,k.2.2.2.2.2.2.2.2.1,k.2.2.2.2.2.2.2.2.2.1,v,k.2.2.2.2.2.2.2.2.2.2.2)
abbrev CK.Fo (k:CK):Int:=k.2.2.2.2.2.2.2.2.2.2.2.1
abbrev CK.L3 (k:CK) (v:Int):CK:=(k.1,k.2.1,k.2.2.1,k.2.2.2.1,k.2.2.2.2.1,k.2.2.2.2.2.1,k.2.2.2.2.2.2.1,k.2.2.2.2.2.2.2.1,k.2.2.2.2.2.2.2.2.1,k.2.2.2.2.2.2.2.2.2.1,k.2.2.2.2.2.2.2.2.2.2.1,v,k.2.2.2.2.2.2.2.2.2.2.2.2)
abbrev CK.labels (k:CK):List (List UInt8×Int):=k.2.2.2.2.2.2.2.2.2.2.2.2.1
abbrev CK.RU (k:CK) (v:List (List UInt8×Int)):CK:=(k.1,k.2.1,k.2.2.1,k.2.2.2.1,k.2.2.2.2.1,k.2.2.2.2.2.1,k.2.2.2.2.2.2.1,k.2.2.2.2.2.2.2.1,k.2.2.2.2.2.2.2.2.1,k.2.2.2.2.2.2.2.2.2.1,k.2.2.2.2.2.2.2.2.2.2.1,k.2.2.2.2.2.2.2.2.2.2.2.1,v,k.2.2.2.2.2.2.2.2.2.2.2.2.2)
abbrev CK.gotos (k:CK):List (List UInt8×Int):=k.2.2.2.2.2.2.2.2.2.2.2.2.2.1
abbrev CK.ae (k:CK) (v:List (List UInt8×Int)):CK:=(k.1,k.2.1,k.2.2.1,k.2.2.2.1,k.2.2.2.2.1,k.2.2.2.2.2.1,k.2.2.2.2.2.2.1,k.2.2.2.2.2.2.2.1,k.2.2.2.2.2.2.2.2.1,k.2.2.2.2.2.2.2.2.2.1,k.2.2.2.2.2.2.2.2.2.2.1,k.2.2.2.2.2.2.2.2.2.2.2.1,k.2.2.2.2.2.2.2.2.2.2.2.2.1,v,k.2.2.2.2.2.2.2.2.2.2.2.2.2.2)
abbrev CK.loops (k:CK):Int:=k.2.2.2.2.2.2.2.2.2.2.2.2.2.2.1
abbrev CK.ID (k:CK) (v:Int):CK:=(k.1,k.2.1,k.2.2.1,k.2.2.2.1,k.2.2.2.2.1,k.2.2.2.2.2.1,k.2.2.2.2.2.2.1,k.2.2.2.2.2.2.2.1,k.2.2.2.2.2.2.2.2.1,k.2.2.2.2.2.2.2.2.2.1,k.2.2.2.2.2.2.2.2.2.2.1,k.2.2.2.2.2.2.2.2.2.2.2.1,k.2.2.2.2.2.2.2.2.2.2.2.2.1,k.2.2.2.2.2.2.2.2.2.2.2.2.2.1,v,k.2.2.2.2.2.2.2.2.2.2.2.2.2.2.2)
abbrev CK.Rb (k:CK):List (List (Int×Int)):=k.2.2.2.2.2.2.2.2.2.2.2.2.2.2.2.1
abbrev CK.Ob (k:CK) (v:List (List (Int×Int))):CK:=(k.1,k.2.1,k.2.2.1,k.2.2.2.1,k.2.2.2.2.1,k.2.2.2.2.2.1,k.2.2.2.2.2.2.1,k.2.2.2.2.2.2.2.1,k.2.2.2.2.2.2.2.2.1,k.2.2.2.2.2.2.2.2.2.1,k.2.2.2.2.2.2.2.2.2.2.1,k.2.2.2.2.2.2.2.2.2.2.2.1,k.2.2.2.2.2.2.2.2.2.2.2.2.1,k.2.2.2.2.2.2.2.2.2.2.2.2.2.1,k.2.2.2.2.2.2.2.2.2.2.2.2.2.2.1,v,k.2.2.2.2.2.2.2.2.2.2.2.2.2.2.2.2)
abbrev CK.QG (k:CK):Int:=k.2.2.2.2.2.2.2.2.2.2.2.2.2.2.2.2.1
abbrev CK.K5 (k:CK) (v:Int):CK:=(k.1,k.2.1,k.2.2.1,k.2.2.2.1,k.2.2.2.2.1,k.2.2.2.2.2.1,k.2.2.2.2.2.2.1,k.2.2.2.2.2.2.2.1,k.2.2.2.2.2.2.2.2.1,k.2.2.2.2.2.2.2.2.2.1,k.2.2.2.2.2.2.2.2.2.2.1,k.2.2.2.2.2.2.2.2.2.2.2.1,k.2.2.2.2.2.2.2.2.2.2.2.2.1,k.2.2.2.2.2.2.2.2.2.2.2.2.2.1,k.2.2.2.2.2.2.2.2.2.2.2.2.2.2.1,k.2.2.2.2.2.2.2.2.2.2.2.2.2.2.2.1,v,k.2.2.2.2.2.2.2.2.2.2.2.2.2.2.2.2.2)
abbrev CK.e (k:CK):Int:=k.2.2.2.2.2.2.2.2.2.2.2.2.2.2.2.2.2.1
abbrev CK.Yj (k:CK) (v:Int):CK:=(k.1,k.2.1,k.2.2.1,k.2.2.2.1,k.2.2.2.2.1,k.2.2.2.2.2.1,k.2.2.2.2.2.2.1,k.2.2.2.2.2.2.2.1,k.2.2.2.2.2.2.2.2.1,k.2.2.2.2.2.2.2.2.2.1,k.2.2.2.2.2.2.2.2.2.2.1,k.2.2.2.2.2.2.2.2.2.2.2.1,k.2.2.2.2.2.2.2.2.2.2.2.2.1,k.2.2.2.2.2.2.2.2.2.2.2.2.2.1,k.2.2.2.2.2.2.2.2.2.2.2.2.2.2.1,k.2.2.2.2.2.2.2.2.2.2.2.2.2.2.2.1,k.2.2.2.2.2.2.2.2.2.2.2.2.2.2.2.2.1,v,k.2.2.2.2.2.2.2.2.2.2.2.2.2.2.2.2.2.2)
abbrev CK.when (k:CK):Int:=k.2.2.2.2.2.2.2.2.2.2.2.2.2.2.2.2.2.2.1
abbrev CK.FR (k:CK) (v:Int):CK:=(k.1,k.2.1,k.2.2.1,k.2.2.2.1,k.2.2.2.2.1,k.2.2.2.2.2.1,k.2.2.2.2.2.2.1,k.2.2.2.2.2.2.2.1,k.2.2.2.2.2.2.2.2.1,k.2.2.2.2.2.2.2.2.2.1,k.2.2.2.2.2.2.2.2.2.2.1,k.2.2.2.2.2.2.2.2.2.2.2.1,k.2.2.2.2.2.2.2.2.2.2.2.2.1,k.2.2.2.2.2.2.2.2.2.2.2.2.2.1,k.2.2.2.2.2.2.2.2.2.2.2.2.2.2.1,k.2.2.2.2.2.2.2.2.2.2.2.2.2.2.2.1,k.2.2.2.2.2.2.2.2.2.2.2.2.2.2.2.2.1,k.2.2.2.2.2.2.2.2.2.2.2.2.2.2.2.2.2.1,v,k.2.2.2.2.2.2.2.2.2.2.2.2.2.2.2.2.2.2.2)
abbrev CK.b0:En.Ga:=⟨0,135,[.st 7,.al 1 0,.own 0 3,.own 11 52,.own 12 32,.st 0,.own 5 56,.mr (.str) 9 true 129,.mp (.str) 15 true,.mp (.str) 0 false,.st 11,.st 0,.mp (.str) 0 false,.mp (.str) 0 false,.st 0,.mr (.int .i64) 0 false 217,.st 0,.fd (.int .i64),.st 0],false⟩
abbrev CK.b1:En.Ga:=⟨1,135,[.st 7,.al 2 0,.own 0 3,.own 11 52,.own 12 32,.st 0,.own 5 56,.mr (.str) 9 true 129,.mp (.str) 15 true,.mp (.str) 0 false,.st 11,.st 0,.mp (.str) 0 false,.mp (.str) 0 false,.st 0,.mr (.int .i64) 0 false 217,.st 0,.fd (.int .i64),.st 0],false⟩
abbrev CT:Type:=List (En.Dop.HH)×List (List UInt8×List (En.Dop.QJ))×Unit
abbrev CT.l (k:CT):List (En.Dop.HH):=k.1
abbrev CT.mW (k:CT) (v:List (En.Dop.HH)):CT:=(v,k.2)
abbrev CT.fields (k:CT):List (List UInt8×List (En.Dop.QJ)):=k.2.1
abbrev CT.Yk (k:CT) (v:List (List UInt8×List (En.Dop.QJ))):CT:=(k.1,v,k.2.2)
abbrev CT.b0:En.Ga:=⟨0,168,[.own 6 93,.mp (.str) 17 false],false⟩
abbrev CT.b1:En.Ga:=⟨1,168,[.own 6 93,.mp (.str) 17 false],false⟩
abbrev CT.b2:En.Ga:=⟨2,168,[.own 6 93,.mp (.str) 17 false],false⟩
end Go.Proofs
set_option maxRecDepth 100000
set_option maxHeartbeats 4000000
namespace Go.Proofs.Tryz
open Go Go.En
def Ep.p:Ag:=⟨[],1,⟨[.al 0 0,.fd (.int .i64)],[CT.b0]⟩,⟨[.st 6,.fd .bool],[CT.b0]⟩,false,[],[]⟩
theorem Ep.ok:AF Dop.D4 prog 163 Ep.p=true:=by kernel_rfl
def Iw.p:Ag:=⟨[],1,⟨[.al 0 0,.st 6],[CT.b0]⟩,⟨[.fd (.int .i64),.fd (.int .i64)],[CT.b0]⟩,false,[(1,⟨[(0,true),(1,true),(2,true),(3,false),(4,false),(5,false),(6,true)],[],[0,1,3,7,0,31,63],true⟩),(6,⟨[(0,true),(1,true),(2,true),(3,true),(4,false),(5,false),(6,false)],[7,8,9,10],[0,0,2,6,14,0,32,126,255,511,1023],false⟩)],[]⟩
theorem Iw.ok:AF Dop.D4 prog 193 Iw.p=true:=by kernel_rfl
def Is.p:Ag:=⟨[],1,⟨[.al 0 0,.fd (.int .i64)],[CT.b0]⟩,⟨[.fd (.int .i64),.fd (.int .i64)],[CT.b0]⟩,false,[],[]⟩
theorem Is.ok:AF Dop.D4 prog 159 Is.p=true:=by kernel_rfl
abbrev BZ.VW:Cut:=⟨[[0,0,0,0,1,0,1,0,1,1,1,1,1,0,0,1,1],[0,1,0,0,1,0,1,0,1,1,1,1,1,0,0,1,1],[2,0,0,1,0,1,0,1,1,1,1,1,0,0,1,1],[1,1],[0,1,1,0,1,1,1,1,1,0,0,1,1],[1,0],[0,1,1,1]],[0,10,54,55,56],1,⟨[.al 0 0,.fd (.int .i64),.fd (.sl 16),.fd (.int .i64),.fd (.int .i64)],[CT.b0]⟩⟩
def BZ.p:Ag:=⟨[(10,BZ.VW)],1,⟨[.al 0 0,.fd (.int .i64)],[CT.b0]⟩,⟨[.fd (.int .i64),.fd .bool],[CT.b0]⟩,false,[(9,⟨[(0,true),(1,true),(2,true),(3,false),(4,true),(5,false),(6,false),(7,false),(8,true)],[],[0,1,3,7,0,16,63,127,0],false⟩)],[]⟩
theorem BZ.ok:AF Dop.D4 prog 124 BZ.p=true:=by kernel_rfl
abbrev Fw.T:Type:=(((Unit×Int×Unit)×(CT×Unit))->Option ((Int×Bool×Unit)×(CT×Unit)))×Unit
def KM.p:Ag:=⟨[],1,⟨[.al 0 0,.fd (.int .i64),.fd (.int .i64)],[CT.b0]⟩,⟨[.fd (.int .i64),.fd (.int .i64)],[CT.b0]⟩,false,[],[]⟩
theorem KM.ok:AF Dop.D4 prog 160 KM.p=true:=by kernel_rfl
def Iu.p:Ag:=⟨[],1,⟨[.al 0 0,.fd .str],[CT.b0]⟩,⟨[.fd (.int .i64),.fd (.int .i64)],[CT.b0]⟩,false,[],[]⟩
theorem Iu.ok:AF Dop.D4 prog 161 Iu.p=true:=by kernel_rfl
def DX.p:Ag:=⟨[],1,⟨[.al 0 0,.fd (.int .i64)],[CT.b0]⟩,⟨[.fd .bool],[CT.b0]⟩,false,[],[]⟩
theorem DX.ok:AF Dop.D4 prog 128 DX.p=true:=by kernel_rfl
abbrev Hf.q6:Cut:=⟨[[0,0,0,0,1,0,1,1,1,1],[0,1,0,0,1,0,1,1,1,1],[2,0,0,1,0,1,1,1,1],[1,0],[0,1,1,1,1,1]],[0,2,11,35,36,37],1,⟨[.al 0 0,.fd .str,.fd (.int .i64),.fd (.sl 16),.fd (.int .i64),.fd (.int .i64)],[CT.b0]⟩⟩
def Hf.p:Ag:=⟨[(6,Hf.q6)],1,⟨[.al 0 0,.fd (.int .i64),.fd .str],[CT.b0]⟩,⟨[.fd (.int .i64),.fd (.int .i64),.fd .bool],[CT.b0]⟩,false,[(5,⟨[(0,true),(1,true),(2,true),(3,false),(4,true),(5,false),(6,false),(7,false),(8,true)],[],[0,1,3,7,0,16,63,127,0],false⟩),(9,⟨[(0,true),(1,true),(2,false),(3,true),(4,true),(5,true)],[],[0,0,2,1,15,31],false⟩)],[]⟩
theorem Hf.ok:AF Dop.D4 prog 248 Hf.p=true:=by kernel_rfl
def Np.p:Ag:=⟨[],2,⟨[.al 0 0,.fd (.int .i64)],[CK.b0,CT.b1]⟩,⟨[.st 5],[CK.b0,CT.b1]⟩,false,[],[]⟩
theorem Np.ok:AF Dop.D4 prog 74 Np.p=true:=by kernel_rfl
def Au.p:Ag:=⟨[],2,⟨[.al 0 0,.fd (.int .i64),.fd (.int .i64)],[CK.b0,CT.b1]⟩,⟨[.st 10],[CK.b0,CT.b1]⟩,false,[],[]⟩
theorem Au.ok:AF Dop.D4 prog 123 Au.p=true:=by kernel_rfl
def DW.p:Ag:=⟨[],2,⟨[.al 0 0,.fd (.int .i64)],[CK.b0,CT.b1]⟩,⟨[.fd (.int .i64)],[CK.b0,CT.b1]⟩,false,[],[]⟩
theorem DW.ok:AF Dop.D4 prog 127 DW.p=true:=by kernel_rfl
def FL.p:Ag:=⟨[],2,⟨[.al 0 0,.fd (.int .i64)],[CK.b0,CT.b1]⟩,⟨[.fd .bool],[CK.b0,CT.b1]⟩,false,[],[]⟩
theorem FL.ok:AF Dop.D4 prog 125 FL.p=true:=by kernel_rfl
def F0.p:Ag:=⟨[],2,⟨[.al 0 0,.fd (.int .i64)],[CK.b0,CT.b1]⟩,⟨[.fd (.int .i64),.fd (.int .i64)],[CK.b0,CT.b1]⟩,false,[(2,⟨[(0,true),(1,true),(2,true),(3,false),(4,true),(5,false),(6,false),(7,true),(8,true),(9,true),(10,true),(11,true)],[2000000],[0,1,3,7,0,16,63,127,255,255,511,2047],false⟩)],[]⟩
theorem F0.ok:AF Dop.D4 prog 228 F0.p=true:=by kernel_rfl
def Ji.p:Ag:=⟨[],2,⟨[.al 0 0,.fd (.int .i64)],[CK.b0,CT.b1]⟩,⟨[.fd .bool],[CK.b0,CT.b1]⟩,false,[],[]⟩
theorem Ji.ok:AF Dop.D4 prog 242 Ji.p=true:=by kernel_rfl
def Gq.p:Ag:=⟨[],2,⟨[.al 0 0,.fd (.int .i64),.fd (.int .i64)],[CK.b0,CT.b1]⟩,⟨[.fd (.int .i64)],[CK.b0,CT.b1]⟩,false,[],[]⟩
theorem Gq.ok:AF Dop.D4 prog 240 Gq.p=true:=by kernel_rfl
def BU.p:Ag:=⟨[],2,⟨[.al 0 0,.fd (.int .i64),.fd (.int .i64),.fd (.int .i64),.fd (.int .i64),.fd (.int .i64),.fd .str],[CK.b0,CT.b1]⟩,⟨[.fd (.int .i64)],[CK.b0,CT.b1]⟩,false,[],[]⟩
noncomputable def BU.E:Env Dop.D4:=Ac prog 132 tb [] BU.p
theorem BU.ok:AF Dop.D4 prog 132 BU.p=true:=by kernel_rfl
noncomputable def BU.c:Bw Dop.D4:=⟨132,BU.p.bn,BU.p.sp,BU.p.rs,BU.p.flat,.opt (BU.E.run 3000 BU.p.sp)⟩
theorem BU.holds:BU.c.Holds prog:=Ev 3000 AH CC BU.ok
def EC.p:Ag:=⟨[],0,⟨[.fd (.int .i64)],[]⟩,⟨[.fd (.int .i64)],[]⟩,true,[],[]⟩
theorem EC.ok:AF Dop.D4 prog 126 EC.p=true:=by kernel_rfl
def ED.p:Ag:=⟨[],2,⟨[.al 0 0,.fd (.int .i64)],[CK.b0,CT.b1]⟩,⟨[.fd (.int .i64)],[CK.b0,CT.b1]⟩,false,[],[]⟩
theorem ED.ok:AF Dop.D4 prog 165 ED.p=true:=by kernel_rfl
def FY.p:Ag:=⟨[],2,⟨[.al 0 0,.fd (.int .i64)],[CK.b0,CT.b1]⟩,⟨[.fd (.int .i64)],[CK.b0,CT.b1]⟩,false,[],[]⟩
theorem FY.ok:AF Dop.D4 prog 134 FY.p=true:=by kernel_rfl
def Iv.p:Ag:=⟨[],2,⟨[.al 0 0,.fd (.int .i64)],[CK.b0,CT.b1]⟩,⟨[.fd (.int .i64)],[CK.b0,CT.b1]⟩,false,[],[]⟩
theorem Iv.ok:AF Dop.D4 prog 164 Iv.p=true:=by kernel_rfl
def I0.p:Ag:=⟨[],2,⟨[.al 0 0,.fd (.int .i64)],[CK.b0,CT.b1]⟩,⟨[.fd (.int .i64)],[CK.b0,CT.b1]⟩,false,[],[]⟩
theorem I0.ok:AF Dop.D4 prog 238 I0.p=true:=by kernel_rfl
def KN.p:Ag:=⟨[],2,⟨[.al 0 0,.fd (.int .i64)],[CK.b0,CT.b1]⟩,⟨[.fd (.int .i64)],[CK.b0,CT.b1]⟩,false,[],[]⟩
theorem KN.ok:AF Dop.D4 prog 239 KN.p=true:=by kernel_rfl
def Iy.p:Ag:=⟨[],2,⟨[.al 0 0,.fd (.int .i64),.fd (.int .i64)],[CK.b0,CT.b1]⟩,⟨[.st 10],[CK.b0,CT.b1]⟩,false,[],[]⟩
theorem Iy.ok:AF Dop.D4 prog 217 Iy.p=true:=by kernel_rfl
def FM.p:Ag:=⟨[],2,⟨[.al 0 0,.st 9],[CK.b0,CT.b1]⟩,⟨[.fd (.int .i64)],[CK.b0,CT.b1]⟩,false,[],[]⟩
theorem FM.ok:AF Dop.D4 prog 133 FM.p=true:=by kernel_rfl
def Hd.p:Ag:=⟨[],2,⟨[.al 0 0,.fd (.int .i64),.fd (.int .i64)],[CK.b0,CT.b1]⟩,⟨[.fd (.int .i64)],[CK.b0,CT.b1]⟩,false,[],[]⟩
theorem Hd.ok:AF Dop.D4 prog 229 Hd.p=true:=by kernel_rfl
def He.p:Ag:=⟨[],2,⟨[.al 0 0,.fd (.int .i64),.fd (.int .i64)],[CK.b0,CT.b1]⟩,⟨[.fd (.int .i64)],[CK.b0,CT.b1]⟩,false,[],[]⟩
theorem He.ok:AF Dop.D4 prog 230 He.p=true:=by kernel_rfl
def Bn.p:Ag:=⟨[],2,⟨[.al 0 0,.fd (.int .i64),.fd (.int .i64),.fd (.int .i64),.fd (.int .i64),.fd (.int .i64),.fd (.int .i64),.fd .str],[CK.b0,CT.b1]⟩,⟨[.fd (.int .i64)],[CK.b0,CT.b1]⟩,false,[],[]⟩
theorem Bn.ok:AF Dop.D4 prog 131 Bn.p=true:=by kernel_rfl
abbrev BR.q7:Cut:=⟨[[0,0,0,1,1,1,1],[0,1,0,1,1,1,1],[0,1,1,1,1,1]],[0,2,3,4,6,11,12,13],3,⟨[.al 0 0,.fd (.int .i64),.fd (.int .i64),.fd .bool,.al 2 0,.fd (.int .i64),.fd (.int .i64),.fd .bool],[CK.b0,CT.b1,⟨2,174,[.st 10],false⟩]⟩⟩
abbrev BR.eD:Cut:=⟨[[0,0,0,1,1,1,1,1,1],[0,1,0,1,1,1,1,1,1],[0,1,1,1,1,1,1,1]],[0,3,6,11,12,13],3,⟨[.al 0 0,.fd (.int .i64),.al 2 0,.fd (.int .i64),.fd (.int .i64),.fd .bool],[CK.b0,CT.b1,⟨2,174,[.st 10],false⟩]⟩⟩
def BR.p:Ag:=⟨[(7,BR.q7),(11,BR.eD)],2,⟨[.al 0 0,.st 10,.fd (.int .i64),.fd (.int .i64),.fd .bool],[CK.b0,CT.b1]⟩,⟨[.fd (.int .i64)],[CK.b0,CT.b1]⟩,false,[(10,⟨[(0,true),(1,true),(2,true),(3,false),(4,true),(5,false),(6,false),(7,true),(8,true),(9,true),(10,true),(11,false),(12,true),(13,false),(14,true),(15,true)],[2000000],[0,1,3,7,0,16,63,127,255,511,1023,2047,255,8191,16383,32767],false⟩)],[]⟩
theorem BR.ok:AF Dop.D4 prog 195 BR.p=true:=by kernel_rfl
def Cj.p:Ag:=⟨[],2,⟨[.al 0 0,.fd (.int .i64),.fd (.int .i64),.fd (.int .i64)],[CK.b0,CT.b1]⟩,⟨[.fd (.int .i64)],[CK.b0,CT.b1]⟩,false,[],[]⟩
theorem Cj.ok:AF Dop.D4 prog 243 Cj.p=true:=by kernel_rfl
def GN.p:Ag:=⟨[],2,⟨[.al 0 0,.fd (.int .i64),.fd (.int .i64)],[CK.b0,CT.b1]⟩,⟨[.fd (.int .i64)],[CK.b0,CT.b1]⟩,false,[],[]⟩
theorem GN.ok:AF Dop.D4 prog 244 GN.p=true:=by kernel_rfl
abbrev C6.q2:Cut:=⟨[[0,0,0,0,0,1,0,1],[0,1,0,0,0,1,0,1],[0,1,0,0,1,0,1],[2,0,0,1,0,1],[1,0],[0,1,1]],[0,1,2,7],2,⟨[.al 0 0,.fd (.int .i64),.fd (.int .i64),.fd (.int .i64)],[CK.b0,CT.b1]⟩⟩
abbrev C6.YT:Cut:=⟨[[0,0,0,1,1,1,0,0,1,0,0,1,0,1],[0,1,0,1,1,1,0,0,1,0,0,1,0,1],[0,1,1,1,1,0,0,1,0,0,1,0,1],[1,1],[0,1,1,0,0,1,0,1],[2,0,0,1,0,1],[1,0],[0,1,1]],[0,1,2,7,9,10],2,⟨[.al 0 0,.fd (.int .i64),.fd (.int .i64),.fd (.int .i64),.fd (.int .i64),.fd (.int .i64)],[CK.b0,CT.b1]⟩⟩
def C6.p:Ag:=⟨[(2,C6.q2),(13,C6.YT)],2,⟨[.al 0 0,.fd (.int .i64),.fd (.int .i64)],[CK.b0,CT.b1]⟩,⟨[.fd (.int .i64)],[CK.b0,CT.b1]⟩,false,[(8,⟨[(0,true),(1,true),(2,true),(3,false),(4,true),(5,true),(6,true),(7,false),(8,true),(9,false),(10,false),(11,false),(12,false),(13,true),(14,true),(15,true),(16,true),(17,true)],[2000000],[0,1,3,7,0,16,48,112,0,256,1008,2032,4095,8191,16383,16383,32767,131071],false⟩),(10,⟨[(0,true),(1,true),(2,true),(3,false),(4,true),(5,true),(6,true),(7,false),(8,true),(9,false),(10,false),(11,false),(12,true),(13,false),(14,false),(15,true),(16,true),(17,true),(18,true),(19,true)],[2000000],[0,1,3,7,0,16,48,112,0,256,1008,2032,0,4096,16383,32767,65535,65535,131071,524287],false⟩),(12,⟨[(0,true),(1,true),(2,true),(3,false),(4,true),(5,false),(6,false),(7,true),(8,true),(9,true),(10,true),(11,true)],[2000000],[0,1,3,7,0,16,63,127,255,255,511,2047],false⟩)],[]⟩
theorem C6.ok:AF Dop.D4 prog 121 C6.p=true:=by kernel_rfl
def Iz.p:Ag:=⟨[],2,⟨[.al 0 0,.st 10,.fd (.int .i64)],[CK.b0,CT.b1]⟩,⟨[.st 10],[CK.b0,CT.b1]⟩,false,[],[]⟩
theorem Iz.ok:AF Dop.D4 prog 225 Iz.p=true:=by kernel_rfl
abbrev Hc.eD:Cut:=⟨[[0,0,1,1,1,1],[0,1,1,1,1,1]],[0,6,7,8,10,11],6,⟨[.al 0 0,.al 2 0,.al 3 0,.al 4 0,.al 5 0,.fd (.int .i64)],[CK.b0,CT.b1,⟨2,174,[.st 10],false⟩,⟨3,174,[.st 10],false⟩,⟨4,174,[.st 10],false⟩,⟨5,174,[.st 10],false⟩]⟩⟩
def Hc.p:Ag:=⟨[(11,Hc.eD)],2,⟨[.al 0 0,.st 10,.st 10,.st 10,.fd (.int .i64)],[CK.b0,CT.b1]⟩,⟨[.st 10],[CK.b0,CT.b1]⟩,false,[],[]⟩
theorem Hc.ok:AF Dop.D4 prog 224 Hc.p=true:=by kernel_rfl
def KP.p:Ag:=⟨[],2,⟨[.al 0 0,.fd (.int .i64),.fd (.int .i64)],[CK.b0,CT.b1]⟩,⟨[.fd (.int .i64)],[CK.b0,CT.b1]⟩,false,[],[]⟩
theorem KP.ok:AF Dop.D4 prog 246 KP.p=true:=by kernel_rfl
def EP.p:Ag:=⟨[],2,⟨[.al 0 0,.st 10,.fd (.int .i64)],[CK.b0,CT.b1]⟩,⟨[.fd (.int .i64)],[CK.b0,CT.b1]⟩,false,[],[]⟩
theorem EP.ok:AF Dop.D4 prog 196 EP.p=true:=by kernel_rfl
end Go.Proofs.Tryz
set_option maxRecDepth 100000
set_option maxHeartbeats 4000000
namespace Go.Proofs.Tryz
open Go Go.En
def Mx.p:Ag:=⟨[],0,⟨[],[]⟩,⟨[.mp (.str) 14 true],[]⟩,true,[],[]⟩
theorem Mx.ok:AF Dop.D4 prog 241 Mx.p=true:=by kernel_rfl
def KO.p:Ag:=⟨[],2,⟨[.al 0 0,.st 10,.fd (.int .i64)],[CK.b0,CT.b1]⟩,⟨[.fd (.int .i64),.st 10],[CK.b0,CT.b1]⟩,false,[(2,⟨[(0,false),(1,true)],[2],[0,0,3],false⟩),(6,⟨[(0,true),(1,true),(2,true),(3,true),(4,false),(5,false),(6,true),(7,false),(8,true),(9,true),(10,true)],[11,1000000],[0,0,0,0,12,30,0,64,0,510,63,2047],false⟩)],[]⟩
theorem KO.ok:AF Dop.D4 prog 245 KO.p=true:=by kernel_rfl
end Go.Proofs.Tryz
set_option maxRecDepth 100000
set_option maxHeartbeats 4000000
namespace Go.Proofs.Tryz
open Go Go.En
abbrev Bo.q4:Cut:=⟨[[0,0,1,1,1],[0,1,1,1,1]],[0,1,4,7,8,10,11,12],5,⟨[.al 0 0,.fd .str,.fd (.int .i64),.al 2 0,.al 3 0,.al 4 0,.fd .bool,.fd .bool],[CK.b0,CT.b1,⟨2,174,[.st 10],false⟩,⟨3,174,[.st 10],false⟩,⟨4,174,[.st 10],false⟩]⟩⟩
abbrev Bo.VW:Cut:=⟨[[0,0,0,0,1,1,1,1,1,1,1,1],[0,1,0,0,1,1,1,1,1,1,1,1],[1,0],[0,1,1,1,1,1,1,1,1,1]],[0,1,4,7,8,10,11,12,13,14,16],6,⟨[.al 0 0,.fd .str,.fd (.int .i64),.al 2 0,.al 3 0,.al 4 0,.fd .bool,.fd .bool,.al 5 0,.fd .bool,.fd (.int .i64)],[CK.b0,CT.b1,⟨2,174,[.st 10],false⟩,⟨3,174,[.st 10],false⟩,⟨4,174,[.st 10],false⟩,⟨5,267,[.st 14],false⟩]⟩⟩
abbrev Bo.YT:Cut:=⟨[[0,0,0,1,0,1,0,0,1,1,1,1,1,1,1,1],[0,1,0,1,0,1,0,0,1,1,1,1,1,1,1,1],[0,1,1,0,1,0,0,1,1,1,1,1,1,1,1],[1,0],[0,1,1,1,1,1,1,1,1,1]],[0,1,7,8,10,13,16],6,⟨[.al 0 0,.fd .str,.al 2 0,.al 3 0,.al 4 0,.al 5 0,.fd (.int .i64)],[CK.b0,CT.b1,⟨2,174,[.st 10],false⟩,⟨3,174,[.st 10],false⟩,⟨4,174,[.st 10],false⟩,⟨5,267,[.st 14],false⟩]⟩⟩
abbrev Bo.bg:Cut:=⟨[[0,0,1,1,0,0,1,1,1,1,1,1,1,1],[0,1,1,1,0,0,1,1,1,1,1,1,1,1],[1,0],[0,1,1,1,1,1,1,1,1,1]],[0,1,4,7,8,10,11,12,13,16],6,⟨[.al 0 0,.fd .str,.fd (.int .i64),.al 2 0,.al 3 0,.al 4 0,.fd .bool,.fd .bool,.al 5 0,.fd (.int .i64)],[CK.b0,CT.b1,⟨2,174,[.st 10],false⟩,⟨3,174,[.st 10],false⟩,⟨4,174,[.st 10],false⟩,⟨5,267,[.st 14],false⟩]⟩⟩
abbrev Bo.mM:Cut:=⟨[[0,0,0,1,1,1,1,1,1,1,1,1,1],[0,1,0,1,1,1,1,1,1,1,1,1,1],[0,1,1,1,1,1,1,1,1,1,1,1]],[0,1,7,8,10,13,16,24],6,⟨[.al 0 0,.fd .str,.al 2 0,.al 3 0,.al 4 0,.al 5 0,.fd (.int .i64),.fd (.int .i64)],[CK.b0,CT.b1,⟨2,174,[.st 10],false⟩,⟨3,174,[.st 10],false⟩,⟨4,174,[.st 10],false⟩,⟨5,267,[.st 14],false⟩]⟩⟩
def Bo.p:Ag:=⟨[(4,Bo.q4),(10,Bo.VW),(13,Bo.YT),(16,Bo.bg),(33,Bo.mM)],2,⟨[.al 0 0,.fd .str,.st 10,.st 10,.fd (.int .i64)],[CK.b0,CT.b1]⟩,⟨[.st 10],[CK.b0,CT.b1]⟩,false,[(3,⟨[(0,true),(1,true),(2,false),(3,false),(4,true),(5,true),(6,true),(7,false),(8,false),(9,true),(10,true),(11,true)],[1000000],[0,0,2,7,15,0,0,64,239,495,511,2047],false⟩),(14,⟨[(0,true),(1,true),(2,false),(3,false),(4,true),(5,false),(6,true),(7,false),(8,false),(9,true)],[10,1000000],[0,0,2,6,0,16,0,64,255,511,1023],false⟩),(15,⟨[(0,true),(1,true),(2,false),(3,false),(4,true),(5,false),(6,true),(7,false),(8,false),(9,true)],[10,1000000],[0,0,2,6,0,16,0,64,255,511,1023],false⟩),(29,⟨[(0,true),(1,false),(2,false),(3,true),(4,false),(5,true),(6,true),(7,false),(8,true),(9,false),(10,false),(11,true),(12,false),(13,true)],[14,1000000],[0,0,2,0,8,0,0,64,0,480,1023,0,2048,8191,16383],false⟩),(31,⟨[(0,true),(1,false),(2,false),(3,true),(4,true),(5,false),(6,true),(7,false),(8,true),(9,false),(10,false),(11,true),(12,false),(13,true)],[14,1000000],[0,0,2,0,0,16,0,120,0,256,1023,0,2048,8191,16383],false⟩),(37,⟨[(0,true),(1,true),(2,false),(3,false),(4,true),(5,false),(6,true),(7,false),(8,false),(9,true),(10,true)],[11,1000000],[0,0,2,6,0,16,0,64,255,0,1023,2047],false⟩)],[]⟩
theorem Bo.ok:AF Dop.D4 prog 219 Bo.p=true:=by kernel_rfl
end Go.Proofs.Tryz
set_option maxRecDepth 100000
namespace Go.Proofs
open Go Go.En Go.RowKit
def Tryz.Aa.p:Ag:=⟨[],2,⟨[.al 0 0,.fd (.sl 0)],[CK.b0,CT.b1]⟩,⟨[.fd (.int .i64)],[CK.b0,CT.b1]⟩,false,[],[(99,[])]⟩
noncomputable def Tryz.Aa.E:Env En.Dop.D4:=Ac Tryz.prog 136 Tryz.tb [Tryz.BU.c] Tryz.Aa.p
theorem Tryz.Aa.ok:AF En.Dop.D4 Tryz.prog 136 Tryz.Aa.p=true:=by kernel_rfl
abbrev IP:En.Spec:=⟨[],[CK.b0,CT.b1,⟨2,126,[.al 0 0],false⟩,⟨3,3,[.fd (.int .i64)],false⟩]⟩
abbrev kQ:En.Spec:=⟨[.al 2 0,.al 3 0,.fd (.int .i64)],[CK.b0,CT.b1,⟨2,126,[.al 0 0],false⟩,⟨3,3,[.fd (.int .i64)],false⟩]⟩
noncomputable def Tryz.Aa.step (x:Int) (y:En.Spec.D En.Dop.D4 IP):Option (En.Spec.D En.Dop.D4 IP):=
 (Tk Tryz.Aa.E 3000 [1,0,1,0,1,1] (BF (AR Tryz.prog 136) [1,0,1,0,1,1]) kQ IP [2,5,7] 4 (((),(),x,()),y.2)).eval (fun _ _=>none)
noncomputable abbrev kN:Code:=BF (AR Tryz.prog 136) [0,0,1,0,1,1]
noncomputable abbrev k7:Code:=BF (AR Tryz.prog 136) [1,0,1,0,1,1]
noncomputable abbrev kO:Code:=BF (AR Tryz.prog 136) [1,1,1]
noncomputable def Tryz.Aa.go:List Int->En.Spec.D En.Dop.D4 IP->Option (En.Spec.D En.Dop.D4 IP)
 | [],y=>some y
 | x::r,y=>(Tryz.Aa.step x y).bind (Tryz.Aa.go r)
theorem Tryz.Aa.Im: ∀ (l r:List Int) (y:En.Spec.D En.Dop.D4 IP),Tryz.Aa.go (l++r) y=(Tryz.Aa.go l y).bind (Tryz.Aa.go r)
 | [],r,y=>rfl
 | x::l,r,y=>by
  simp only [List.cons_append,Tryz.Aa.go]
  cases Tryz.Aa.step x y with
  | none=>rfl
  | some z=>exact Tryz.Aa.Im l r z
noncomputable def Tryz.Aa.R (x:En.Spec.D En.Dop.D4 Tryz.Aa.p.sp):Option (En.Spec.D En.Dop.D4 Tryz.Aa.p.rs):=
 match decide (x.1.2.1.length<9223372036854775807) with
 | true=>(Tryz.Aa.go x.1.2.1.reverse ((),(x.2.1,x.2.2.1,((),()),(-1,()),()))).bind fun y=>some ((y.2.2.2.2.1.1,()),(y.2.1,y.2.2.1,()))
 | false=>none
noncomputable def Tryz.Aa.c:Bw En.Dop.D4:=⟨136,Tryz.Aa.p.bn,Tryz.Aa.p.sp,Tryz.Aa.p.rs,Tryz.Aa.p.flat,.opt Tryz.Aa.R⟩
noncomputable def fm (l:List Int) (x:En.Spec.D En.Dop.D4 ⟨[],[CK.b0,CT.b1]⟩):St En.Dop.D4:=match En.Spec.enc (S:=En.Dop.D4) ⟨[.al 0 0,.fd (.sl 0)],[CK.b0,CT.b1]⟩ (((),l,()),x.2) 2 with
 | (_,o,_)=>⟨[(0,.ptr 0 0),(1,.h 2),(2,.ptr 17 0),(4,.v (.int .i64 0)),(5,.ptr 18 0),(8,.h 2),(9,.fn 146 [.ptr 19 0])],(19,.AQ 66 [.h 2])::(18,.AQ 3 [.v (.int .i64 (-1))])::(17,.AQ 126 [.ptr 0 0])::o,20,17⟩
theorem Tryz.Aa.part (l:List Int) (x:En.Spec.D En.Dop.D4 ⟨[],[CK.b0,CT.b1]⟩) (vs:List SV) (o:List (Nat×En.Own En.Dop.D4)) (n:Nat) (h:En.Spec.enc (S:=En.Dop.D4) ⟨[.al 0 0,.fd (.sl 0)],[CK.b0,CT.b1]⟩ (((),l,()),x.2) 2=(vs,o,n)):
  OY Tryz.Aa.E 3000 [.code [] (AR Tryz.prog 136)] ⟨Be 0 vs,o,n,17⟩=.ret ([.code [0,1,0,1,1] (.rangeFunc (.tmp 9) #[10,11] kN k7),.AQ 0,.code [1,1,1] kO],fm l x):=by
 cases h
 kernel_rfl
noncomputable def WC:Oper:=match kN with
 | .region _ ⟨o::_⟩ _=>o
 | _=>default
theorem cQ:kN=.region 3 #[WC] false:=by kernel_rfl
theorem To:WC.op=.assign (.tmp 11):=by kernel_rfl
theorem MI:WC.dst=some 7:=by kernel_rfl
theorem SN:WC.guard=none:=by kernel_rfl
noncomputable def WD:Array Oper:=match kO with
 | .seq (.region _ o _) _=>o
 | _=>#[]
theorem cS:kO=.seq (.region 5 WD false) .ret:=by kernel_rfl
theorem cR:HI (AR Tryz.prog 136) [1,0,1,0,1,1]=some k7:=by kernel_rfl
theorem gR:ND (AR Tryz.prog 136)=true:=by kernel_rfl
theorem Uy (l:List Int) (x:En.Spec.D En.Dop.D4 ⟨[],[CK.b0,CT.b1]⟩):((En.Spec.parse (S:=En.Dop.D4) ⟨[.al 2 0,.al 3 0],IP.bx⟩ true [.ptr 17 0,.ptr 18 0] (fm l x).o (Qn 2) 4).map fun r=>(r.1,lk r.2.o 19,r.2.bl,lk r.2.m 2,lk r.2.m 3,lk r.2.m 0,lk r.2.m 1))=
  some ((((),(),()),(x.2.1,x.2.2.1,((),()),(-1,()),())),some (.AQ 66 [.h 2]),[],some 17,some 18,some 0,some 1):=by kernel_rfl
theorem WN (l:List Int) (x:En.Spec.D En.Dop.D4 ⟨[],[CK.b0,CT.b1]⟩): ∃ ps,En.Spec.parse (S:=En.Dop.D4) ⟨[.al 2 0,.al 3 0],IP.bx⟩ true [.ptr 17 0,.ptr 18 0] (fm l x).o (Qn 2) 4=some ((((),(),()),(x.2.1,x.2.2.1,((),()),(-1,()),())),ps)/\lk ps.o 19=some (.AQ 66 [.h 2])/\ps.bl=[]/\lk ps.m 2=some 17/\lk ps.m 3=some 18/\lk ps.m 0=some 0/\lk ps.m 1=some 1:=by
 obtain ⟨⟨d,ps⟩,h1,h2⟩:=Option.map_eq_some_iff.1 (Uy l x)
 simp only [Prod.mk.injEq] at h2
 obtain ⟨h3,h4,h5,h6,h7,h8,h9⟩:=h2
 exact ⟨ps,h1.trans (by rw [<-h3]),h4,h5,h6,h7,h8,h9⟩
theorem cj (y:En.Spec.D En.Dop.D4 IP):OY Tryz.Aa.E 3000 [.ops WD WD.toList] ⟨[(2,.ptr 2 0),(5,.ptr 3 0)],(IP.enc (S:=En.Dop.D4) y 4).2.1,(IP.enc (S:=En.Dop.D4) y 4).2.2,17⟩=
  .ret ([],⟨[(2,.ptr 2 0),(5,.ptr 3 0),(16,.v (.int .i64 y.2.2.2.2.1.1)),(4,.v (.int .i64 y.2.2.2.2.1.1))],(IP.enc (S:=En.Dop.D4) y 4).2.1,(IP.enc (S:=En.Dop.D4) y 4).2.2,17⟩):=by kernel_rfl
theorem cm (y:En.Spec.D En.Dop.D4 IP): ∃ ps,En.Spec.parse (S:=En.Dop.D4) ⟨[.fd (.int .i64)],[CK.b0,CT.b1]⟩ true [.v (.int .i64 y.2.2.2.2.1.1)] (IP.enc (S:=En.Dop.D4) y 4).2.1 (Qn 2) 2=some (((y.2.2.2.2.1.1,()),(y.2.1,y.2.2.1,())),ps)/\lk ps.m 0=some 0/\lk ps.m 1=some 1:=by
 have h:((En.Spec.parse (S:=En.Dop.D4) ⟨[.fd (.int .i64)],[CK.b0,CT.b1]⟩ true [.v (.int .i64 y.2.2.2.2.1.1)] (IP.enc (S:=En.Dop.D4) y 4).2.1 (Qn 2) 2).map fun r=>(r.1,lk r.2.m 0,lk r.2.m 1))=some (((y.2.2.2.2.1.1,()),(y.2.1,y.2.2.1,())),some 0,some 1):=by kernel_rfl
 obtain ⟨⟨d,ps⟩,h1,h2⟩:=Option.map_eq_some_iff.1 h
 simp only [Prod.mk.injEq] at h2
 obtain ⟨h3,h4,h5⟩:=h2
 exact ⟨ps,h1.trans (by rw [<-h3]),h4,h5⟩
end Go.Proofs
set_option maxRecDepth 100000
namespace Go.Proofs
open Go Go.En Go.RowKit
theorem lB:(Tryz.Aa.E).Ok Tryz.prog/\Bm Tryz.prog 136=true/\Tryz.Aa.p.sp.okB Tryz.Aa.p.bn=true/\ ∃ fn,Tryz.prog.funcs[136]?=some fn/\fn.body=some (AR Tryz.prog 136)/\fn.ntmps=17/\fn.results=#[.tmp 4]:=by
 obtain ⟨h1,h2,h3,fn,h4,h5,h6,h7⟩:=Gf (p:=Tryz.Aa.p) Tryz.AH (A7 Tryz.BU.holds CC) Tryz.Aa.ok
 have e1:Cg Tryz.prog 136=17:=by kernel_rfl
 have e2:D6 Tryz.prog 136=[.tmp 4]:=by kernel_rfl
 refine ⟨h1,h2,h3,fn,h4,h5,h6.trans e1,?_⟩
 rw [e2] at h7
 rw [<-h7]
theorem Ux {l:Nat} {x:Int×Int} {W:World} {a:Act} {K:Act->World->Prop} (hsz:a.tmps.size=17)
  (h: ∀ a':Act,a'.defers=[]->a'.tmps.size=17->(∀ t,t≠7->t≠10->t≠11->a'.tmps.getD t undef=a.tmps.getD t undef)->a'.tmps.getD 7 undef=.int .i64 x.2->K a' W):
  kN.wpIn (Fence.wide.inRound l) 0 Tryz.prog (Exit.then K (fun _ _ _=>False)) { tmps:=(#[10,11].zip #[Value.int .i64 x.1,Value.int .i64 x.2]).foldl (fun t (p,v)=>t.setIfInBounds p v) a.tmps,defers:=[] } W:=by
 rw [cQ]
 refine FE (.inr ⟨⟨l,rfl⟩,fun ⟨_,_,h⟩=>h,fun j o ho=>?_⟩) ?_
 ·cases j with
  | zero=>simp at ho;subst ho;unfold Em;rw [To]
  | succ j=>simp at ho
 ·show wpList _ _ _ [WC] _ _
  unfold wpList
  rw [if_pos (by simp [Region.wanted,SN])]
  refine .inl (Al (v:=.int .i64 x.2) (w':=W) ?_ ?_)
  ·simp [execOp,To,Act.eval,hsz]
  ·refine h _ rfl (by simp [Act.put,MI,hsz]) (fun t h1 h2 h3=>?_) ?_
   ·simp [Act.put,MI,Array.getD_eq_getD_getElem?,Array.getElem?_setIfInBounds,Ne.symm h1,Ne.symm h2,Ne.symm h3]
   ·simp [Act.put,MI,Array.getD_eq_getD_getElem?,Array.getElem?_setIfInBounds,hsz]
def lC (w0 W:World) (F D0 K:Nat->Prop) (β2:Nat->Nm) (y0:En.Spec.D En.Dop.D4 IP) (pre:List (Int×Int)) (W':World):Prop:=
 ∃ y,Tryz.Aa.go (pre.map Prod.snd) y0=some y/\Nt w0 W F D0 K IP 4 β2 W.heap.size y W'
theorem ZU {w0 W W':World} {F D0 K:Nat->Prop} {β2:Nat->Nm} {y0 yq:En.Spec.D En.Dop.D4 IP} (hkp:Bx En.Dop.D4 w0 F D0) {xs pre rest:List (Int×Int)} {x:Int×Int} (hgo:Tryz.Aa.go (xs.map Prod.snd) y0=some yq) (hxs:xs=pre++x::rest) (hI:lC w0 W F D0 K β2 y0 pre W')
  {a':Act} (hd:a'.defers=[]) (hsz:a'.tmps.size=17) (h2:a'.tmps.getD 2 undef=.pointer (some ⟨(β2 2).AQ,0,none⟩)) (h5:a'.tmps.getD 5 undef=.pointer (some ⟨(β2 3).AQ,0,none⟩)) (h7:a'.tmps.getD 7 undef=.int .i64 x.2) (l:Nat):
  k7.wpIn (Fence.wide.inRound l) 0 Tryz.prog (L2 W.heap.size (lC w0 W F D0 K β2 y0) (fun _ _ _=>False) (pre++[x]) W') a' W':=by
 obtain ⟨y,hy,D,β,vs,o,n,e1,e2,e3,e4,e5,e6,e7,e8,e9⟩:=hI
 obtain ⟨hE,_,_,_⟩:=lB
 have hst: ∃ y',Tryz.Aa.step x.2 y=some y':=by
  rw [hxs,List.map_append,Tryz.Aa.Im,hy] at hgo
  simp only [Option.bind_some,List.map_cons,Tryz.Aa.go] at hgo
  cases hs:Tryz.Aa.step x.2 y with
  | none=>rw [hs] at hgo;cases hgo
  | some y'=>exact ⟨y',rfl⟩
 obtain ⟨y',hy'⟩:=hst
 have he:kQ.enc (S:=En.Dop.D4) (((),(),x.2,()),y.2) 4=([.ptr 2 0,.ptr 3 0,.v (.int .i64 x.2)],o,n):=by
  have h:kQ.enc (S:=En.Dop.D4) (((),(),x.2,()),y.2) 4=([.ptr 2 0,.ptr 3 0,.v (.int .i64 x.2)],(IP.enc (S:=En.Dop.D4) y 4).2.1,(IP.enc (S:=En.Dop.D4) y 4).2.2):=by kernel_rfl
  rw [h,e1]
 refine Tl hE (f0:=3000) (adr:=[1,0,1,0,1,1]) cR gR (sp:=kQ) (qe:=IP) (ts:=[2,5,7]) (bn:=4) (by kernel_rfl) (x:=(((),(),x.2,()),y.2)) (y:=y') hy' he e3.base ?_ e4 (e3.inv hkp) hd hsz ?_ (fun _ _ _ h=>h) (fun ⟨_,_,h⟩=>h) ?_ l
 ·simp only [BM,SV.on,and_true]
  omega
 ·intro j t v hj hv
  match j with
  | 0=>
   simp only [List.getElem?_cons_zero,Option.some.injEq] at hj hv;subst hj;subst hv
   exact ⟨by show 2<17;omega,by rw [h2,<- e2 2 (by omega)];simp only [SV.den]⟩
  | 1=>
   simp only [List.getElem?_cons_succ,List.getElem?_cons_zero,Option.some.injEq] at hj hv;subst hj;subst hv
   exact ⟨by show 5<17;omega,by rw [h5,<- e2 3 (by omega)];simp only [SV.den]⟩
  | 2=>
   simp only [List.getElem?_cons_succ,List.getElem?_cons_zero,Option.some.injEq] at hj hv;subst hj;subst hv
   exact ⟨by show 7<17;omega,by rw [h7];simp only [SV.den]⟩
  | j+3=>simp at hj
 ·intro a'' W'' D' β' vs' o' n' f1 f2 f3 f4
  obtain ⟨g1,g2⟩:=Nt.next e3 e2 e5 e6 e7 e8 e9 f1 f2 f3 f4
  refine ⟨g1,y',?_,g2⟩
  rw [List.map_append,Tryz.Aa.Im,hy]
  simp only [Option.bind_some,List.map_cons,List.map_nil,Tryz.Aa.go,hy']
theorem ZV {w:World} {D:Nat->Prop} {β:Nat->Nm} {o0:List (Nat×En.Own En.Dop.D4)} (hkp:Bx En.Dop.D4 w (AJ o0 β) D) {fn:Func} (hres:fn.results=#[.tmp 4]) {W W':World} {K:Nat->Prop} {β2:Nat->Nm} {yq:En.Spec.D En.Dop.D4 IP} (hβ: ∀ i,i<2->β2 i=β i) (hm:Nt w W (AJ o0 β) D K IP 4 β2 W.heap.size yq W')
  {a:Act} (hd:a.defers=[]) (hsz:a.tmps.size=17) (h2:a.tmps.getD 2 undef=.pointer (some ⟨(β2 2).AQ,0,none⟩)) (h5:a.tmps.getD 5 undef=.pointer (some ⟨(β2 3).AQ,0,none⟩)) (hK:W'.heap[W.heap.size]?=some (.deferred (some []))):
  kO.wpIn Fence.wide 0 Tryz.prog (LC (bodyPostM Fence.wide 2 Tryz.prog fn (Dk (S:=En.Dop.D4) Tryz.Aa.c ((yq.2.2.2.2.1.1,()),(yq.2.1,yq.2.2.1,())) w D β o0))) { a with defers:={ target:=.collected W.heap.size,args:=#[] }::a.defers } W':=by
 obtain ⟨D',β',vs,o,n,e1,e2,e3,e4,e5,e6,e7,e8,e9⟩:=hm
 obtain ⟨hE,_,_,_⟩:=lB
 refine wpIn_wide.2 ?_
 rw [cS]
 refine wp_seq (wp_region_list ?_)
 have hkp':=e3.keeps hkp
 have ho:o=(IP.enc (S:=En.Dop.D4) yq 4).2.1:=by rw [e1]
 have hn:n=(IP.enc (S:=En.Dop.D4) yq 4).2.2:=by rw [e1]
 have hv:=Jp hE (w0:=W') (F:=AJ o β') (D0:=D') (bn:=4) (β0:=β') (f0:=3000) (k0:=[.ops WD WD.toList]) (s0:=⟨[(2,.ptr 2 0),(5,.ptr 3 0)],o,n,17⟩)
  (Q:=fun e a' w'=>match e with
   | .normal=>a'.defers=[]/\a'.tmps.getD 4 undef=.int .i64 yq.2.2.2.2.1.1/\ ∃ D2 β3,(∀ i,i<4->β3 i=β' i)/\GH W' (AJ o β') D' D2 o (· <n) β3 w'
   | _=>False) hkp' (fun _ _ _ _ _ h=>h) e4 rfl (fun z hz=>by
    simp only [List.mem_cons,List.not_mem_nil,or_false] at hz
    subst hz;trivial) (by
   subst ho;subst hn
   rw [cj]
   intro _ _ D2 β3 a' w' hag hg
   refine ⟨hg.defers,by rw [hg.tmps 4 (.v (.int .i64 yq.2.2.2.2.1.1)) rfl];simp only [SV.den],D2,β3,hag,hg.gh⟩)
 have hl:=hv D' β' { a with defers:=[] } W' (fun _ _=>rfl) ⟨rfl,hsz,fun t x hx=>?_,fun t x hx=>?_,e3.base⟩
 ·simp only [List.map_cons,List.map_nil,BY.it,after] at hl
  have hl2:=DE (ds:=[{ target:=.collected W.heap.size,args:=#[] }]) (Q':=Exit.then (Code.ret.wp Tryz.prog (LC (bodyPostM Fence.wide 2 Tryz.prog fn (Dk (S:=En.Dop.D4) Tryz.Aa.c ((yq.2.2.2.2.1.1,()),(yq.2.1,yq.2.2.1,())) w D β o0)))) (LC (bodyPostM Fence.wide 2 Tryz.prog fn (Dk (S:=En.Dop.D4) Tryz.Aa.c ((yq.2.2.2.2.1.1,()),(yq.2.1,yq.2.2.1,())) w D β o0)))) ?_ (fun _ _ _ h=>h.elim) (fun ⟨_,_,h⟩=>h) hl
  ·rw [hd];exact hl2
  ·rintro a' w' ⟨hd',hr,D2,β3,hag,hgh⟩
   refine wp_ret ?_
   obtain ⟨g1,g2⟩:=Nt.next e3 e2 e5 e6 e7 e8 e9 e1 hag hgh e4
   have hK':=(g1 W.heap.size (.inl rfl)).trans hK
   show LeavesInM _ _ _ _ _ _ _ _ _
   rw [hd']
   refine ⟨by simp,.inl ⟨_,_,rfl,run_takeDeferred hK',?_⟩⟩
   refine ⟨.int .i64 yq.2.2.2.2.1.1,by rw [<-hr];exact results_tmp hres _ _ _,?_⟩
   obtain ⟨D4,β4,vs4,o4,n4,f1,f2,f3,f4,_⟩:=g2.Uf (.deferred none)
   rcases he:En.Spec.enc (S:=En.Dop.D4) ⟨[.fd (.int .i64)],[CK.b0,CT.b1]⟩ ((yq.2.2.2.2.1.1,()),(yq.2.1,yq.2.2.1,())) 2 with ⟨rs,o5,n5⟩
   have ho4:o4=(IP.enc (S:=En.Dop.D4) yq 4).2.1:=by rw [f1]
   obtain ⟨ps,hps,hm0,hm1⟩:=cm yq
   rw [<-ho4] at hps
   obtain ⟨β5,b1,b2,b3,b4,b5,_⟩:=En.Spec.B2 f3 hps (by kernel_rfl) he
   have hrs:rs=[.v (.int .i64 yq.2.2.2.2.1.1)]:=by
    have h:En.Spec.enc (S:=En.Dop.D4) ⟨[.fd (.int .i64)],[CK.b0,CT.b1]⟩ ((yq.2.2.2.2.1.1,()),(yq.2.1,yq.2.2.1,())) 2=([.v (.int .i64 yq.2.2.2.2.1.1)],(En.Spec.enc (S:=En.Dop.D4) ⟨[.fd (.int .i64)],[CK.b0,CT.b1]⟩ ((yq.2.2.2.2.1.1,()),(yq.2.1,yq.2.2.1,())) 2).2.1,(En.Spec.enc (S:=En.Dop.D4) ⟨[.fd (.int .i64)],[CK.b0,CT.b1]⟩ ((yq.2.2.2.2.1.1,()),(yq.2.1,yq.2.2.1,())) 2).2.2):=by kernel_rfl
    rw [he] at h
    exact (Prod.mk.inj h).1
   refine ⟨_,β5,rs,o5,n5,he,?_,fun i hi=>?_,b2,b4,b5⟩
   ·rw [hrs];simp only [As,SV.den]
   ·have hi2:i<2:=hi
    have hmi:lk ps.m i=some i:=by
     match i,hi2 with
     | 0,_=>exact hm0
     | 1,_=>exact hm1
    rw [b1 i hi2 i hmi,f2 i (by omega),hβ i hi2]
 all_goals
  simp only [AI] at hx
  split at hx
  ·rename_i he;subst he;cases hx
   first
    | (refine ⟨by show 2<17;omega,?_⟩;simp only [SV.on];omega)
    | (rw [show ({ a with defers:=[] }:Act).tmps.getD 2 undef=a.tmps.getD 2 undef from rfl,h2,<- e2 2 (by omega)];simp only [SV.den])
  ·split at hx
   ·rename_i he;subst he;cases hx
    first
     | (refine ⟨by show 5<17;omega,?_⟩;simp only [SV.on];omega)
     | (rw [show ({ a with defers:=[] }:Act).tmps.getD 5 undef=a.tmps.getD 5 undef from rfl,h5,<- e2 3 (by omega)];simp only [SV.den])
   ·simp [AP] at hx
theorem QS (args:Array Value) (w:World):(callFunc 146 args).run Tryz.prog w=.ok (.enter 146 args) w:=Cf (by kernel_rfl)
theorem Tryz.Aa.holds:Tryz.Aa.c.Holds Tryz.prog:=by
 obtain ⟨hE,hbod,hokB,fn,hf,hb,hn',hres⟩:=lB
 refine ⟨hbod,hokB,fun h=>(by cases h),fun x y hxy w D β vs o n he hg hon hn hiv=>?_⟩
 have hxy:Tryz.Aa.R x=some y:=hxy
 unfold Tryz.Aa.R at hxy
 split at hxy
 case h_2=>cases hxy
 rename_i hl
 have hl:=of_decide_eq_true hl
 obtain ⟨yq,hgo,hy⟩:=Option.bind_eq_some_iff.1 hxy
 cases hy
 have hkp:Bx En.Dop.D4 w (AJ o β) D:=⟨hiv,fun k hk=>⟨hg.C5 k hk,fun ⟨i,b,hi,hik⟩=>hg.off i b k hi hik hk⟩⟩
 have hx:x=(((),x.1.2.1,()),x.2):=rfl
 have he':En.Spec.enc (S:=En.Dop.D4) ⟨[.al 0 0,.fd (.sl 0)],[CK.b0,CT.b1]⟩ (((),x.1.2.1,()),x.2) 2=(vs,o,n):=he
 have hlen:vs.length=2:=En.Spec.AZ he
 refine VC.Sb (M:=0+3000) (bn:=2) hf hb hn' (by omega) hon hg ?_
 refine Jp hE hkp (fun _ _ _ _ _ h=>h) (k0:=[.code [] (AR Tryz.prog 136)]) (s0:=⟨Be 0 vs,o,n,17⟩) hn rfl (fun z hz=>by
  simp only [List.mem_cons,List.not_mem_nil,or_false] at hz
  subst hz;rfl) ?_
 rw [Tryz.Aa.part x.1.2.1 ((),x.2) vs o n he']
 intro _ _ D1 β1 a W hβ1 hg1
 simp only [List.map_cons,List.map_nil,BY.it,after]
 obtain ⟨ps,hps,hp7,hpbl,hm1,hm2,hm0,hm01⟩:=WN x.1.2.1 ((),x.2)
 rcases hq:IP.enc (S:=En.Dop.D4) ((),(x.2.1,x.2.2.1,((),()),(-1,()),())) 4 with ⟨vq,o2,n2⟩
 have he2:En.Spec.enc (S:=En.Dop.D4) ⟨[.al 2 0,.al 3 0],IP.bx⟩ (((),(),()),(x.2.1,x.2.2.1,((),()),(-1,()),())) 4=([.ptr 2 0,.ptr 3 0],o2,n2):=by
  have h:En.Spec.enc (S:=En.Dop.D4) ⟨[.al 2 0,.al 3 0],IP.bx⟩ (((),(),()),(x.2.1,x.2.2.1,((),()),(-1,()),())) 4=([.ptr 2 0,.ptr 3 0],(IP.enc (S:=En.Dop.D4) ((),(x.2.1,x.2.2.1,((),()),(-1,()),())) 4).2.1,(IP.enc (S:=En.Dop.D4) ((),(x.2.1,x.2.2.1,((),()),(-1,()),())) 4).2.2):=by kernel_rfl
  rw [h,hq]
 obtain ⟨β2,b1,b2,_,_,b5,b6,b7,_,_⟩:=En.Spec.B2 hg1.gh hps (by kernel_rfl) he2
 have r1:=b1 2 (by omega) 17 hm1
 have r2:=b1 3 (by omega) 18 hm2
 have r0:=b1 0 (by omega) 0 hm0
 have gB:=b1 1 (by omega) 1 hm01
 obtain ⟨Bs,hBs,hBh⟩:=hg1.gh.own 19 _ (show lk (fm x.1.2.1 ((),x.2)).o 19=some (.AQ 66 [.h 2]) from rfl)
 obtain ⟨_,hrow⟩:=hg1.gh.own 2 _ (show lk (fm x.1.2.1 ((),x.2)).o 2=some (.sl 0 x.1.2.1) by kernel_rfl)
 have A0:(β1 19).AQ=Bs:=by unfold Nm.AQ;rw [hBs];rfl
 have hBs':Bs<W.heap.size:=(Array.getElem?_eq_some_iff.1 hBh).1
 have hgd:=b2.gJ (r:=Bs) (fun i b hi hk=>b6 19 _ i b Bs hp7 (by rw [hpbl];simp) hi (Nm.Eo hBs) hk) hBs' (hg1.gh.fresh 19 _ Bs (show lk (fm x.1.2.1 ((),x.2)).o 19=some (.AQ 66 [.h 2]) from rfl) (Nm.Eo hBs))
 have hrd: ∀ W':World,(∀ k,(FH D1 β1 ps.bl k\/k=Bs)->W'.heap[k]?=W.heap[k]?)->bp Bs x.1.2.1 W':=fun W' hs=>by
  have hc:W'.cell? ⟨Bs,0,none⟩=some ((β1 2).sl):=by
   rw [World.cell?_of_block (w:=W) (hs Bs (.inr rfl))]
   unfold World.cell?
   rw [hBh]
   simp [AA,SV.den]
  rcases RS hrow with ⟨h1,a',c,h2⟩|⟨b,off,cap,h2,h3,h4⟩
  ·exact .inl ⟨h1,a',c,by rw [hc,h2]⟩
  ·exact .inr ⟨b,off,cap,by rw [hc,h2],fun j hj=>by rw [World.cell?_of_block (w:=W) (hs b (.inl (.inl h3)))];exact h4 j hj⟩
 have t2:a.tmps.getD 2 undef=.pointer (some ⟨(β2 2).AQ,0,none⟩):=by rw [hg1.tmps 2 (.ptr 17 0) rfl,r1];simp only [SV.den]
 have t5:a.tmps.getD 5 undef=.pointer (some ⟨(β2 3).AQ,0,none⟩):=by rw [hg1.tmps 5 (.ptr 18 0) rfl,r2];simp only [SV.den]
 have hsz:a.tmps.size=17:=hg1.size
 have hgo':Tryz.Aa.go ((bwd x.1.2.1).map Prod.snd) ((),(x.2.1,x.2.2.1,((),()),(-1,()),()))=some yq:=by rw [Tm];exact hgo
 refine wpIn_wide.2 (wpIn_wide.1 (KU (gf:=146) (lb:=#[.pointer (some ⟨Bs,0,none⟩)]) ?_ QS (Tryz.Ti Bs x.1.2.1 hl) (fun _=>rfl)
  (lC w W (AJ o β) D (fun k=>FH D1 β1 ps.bl k\/k=Bs) β2 ((),(x.2.1,x.2.2.1,((),()),(-1,()),()))) (fun _ _ _=>False) (fun pre W' ob ⟨y,h1,h2⟩ hlt=>⟨y,h1,Nt.Yu y W' ob h2 hlt⟩) (fun _ _ _ _ h _=>h)
  (fun pre W' ⟨_,_,_,_,_,_,_,_,_,_,_,_,_,_,_,h9⟩=>hrd W' h9) (fun ob ob'=>⟨_,rfl,Nt.first hq hgd b5 (fun _ h=>h) ob ob'⟩)
  (fun x' a'=>a'.defers=[]/\a'.tmps.size=17/\a'.tmps.getD 2 undef=.pointer (some ⟨(β2 2).AQ,0,none⟩)/\a'.tmps.getD 5 undef=.pointer (some ⟨(β2 3).AQ,0,none⟩)/\a'.tmps.getD 7 undef=.int .i64 x'.2) ?_ ?_ ?_ ?_))
 ·rw [show a.eval (.tmp 9)=a.tmps.getD 9 undef from rfl,hg1.tmps 9 (.fn 146 [.ptr 19 0]) rfl]
  simp only [SV.den,AA,EM (show Nat.ble 1000000 146=false from rfl),A0]
 ·intro l x' W' K hK
  exact Ux hsz fun a' h1 h2 h3 h4=>hK a' ⟨h1,h2,by rw [h3 2 (by decide) (by decide) (by decide)];exact t2,by rw [h3 5 (by decide) (by decide) (by decide)];exact t5,h4⟩
 ·rintro pre x' rest a' W' hxs _ hI ⟨h1,h2,h3,h4,h5⟩
  exact ZU hkp hgo' hxs hI h1 h2 h3 h4 h5 _
 ·rintro W' ⟨y,h1,h2⟩ hK
  rw [hgo'] at h1
  cases h1
  simp only [after,Exit.inBlock]
  exact ZV hkp hres (fun i hi=>by
   match i,hi with
   | 0,_=>rw [r0];exact hβ1 0 (by omega)
   | 1,_=>rw [gB];exact hβ1 1 (by omega)) h2 hg1.defers hsz t2 t5 hK
 ·exact fun _ _ _ _ h=>h.elim
end Go.Proofs
