/- What the boxes of some types hold: as one, with names of the parts. Written by a program. -/
import Derived.Test.YtikecakpcfpghaaGreatDoorMj
set_option linter.all false
namespace Go.Proofs
open Go Go.En
abbrev CK:Type:=En.Dop.HA×Unit×List (Int)×List (En.Dop.Dc)×List (En.Dop.ML)×Int×List (En.Dop.AZ)×List (List (List UInt8×En.Dop.CD))×List (List UInt8×En.Dop.N8)×List (List UInt8×Int)×En.Dop.Dc×Int×List (List UInt8×Int)×List (List UInt8×Int)×Int×List (List (Int×Int))×Int×Int×Int×Unit
abbrev CK.t (k:CK):En.Dop.HA:=k.1
abbrev CK.lY (k:CK) (v:En.Dop.HA):CK:=(v,k.2)
abbrev CK.num (k:CK):List (Int):=k.2.2.1
abbrev CK.Nu (k:CK) (v:List (Int)):CK:=(k.1,k.2.1,v,k.2.2.2)
abbrev CK.funcs (k:CK):List (En.Dop.Dc):=k.2.2.2.1
abbrev CK.J7 (k:CK) (v:List (En.Dop.Dc)):CK:=(k.1,k.2.1,k.2.2.1,v,k.2.2.2.2)
abbrev CK.globals (k:CK):List (En.Dop.ML):=k.2.2.2.2.1
abbrev CK.IT (k:CK) (v:List (En.Dop.ML)):CK:=(k.1,k.2.1,k.2.2.1,k.2.2.2.1,v,k.2.2.2.2.2)
abbrev CK.top (k:CK):Int:=k.2.2.2.2.2.1
abbrev CK.U0 (k:CK) (v:Int):CK:=(k.1,k.2.1,k.2.2.1,k.2.2.2.1,k.2.2.2.2.1,v,k.2.2.2.2.2.2)
abbrev CK.nodes (k:CK):List (En.Dop.AZ):=k.2.2.2.2.2.2.1
abbrev CK.FA (k:CK) (v:List (En.Dop.AZ)):CK:=(k.1,k.2.1,k.2.2.1,k.2.2.2.1,k.2.2.2.2.1,k.2.2.2.2.2.1,v,k.2.2.2.2.2.2.2)
abbrev CK.names (k:CK):List (List (List UInt8×En.Dop.CD)):=k.2.2.2.2.2.2.2.1
abbrev CK.CV (k:CK) (v:List (List (List UInt8×En.Dop.CD))):CK:=(k.1,k.2.1,k.2.2.1,k.2.2.2.1,k.2.2.2.2.1,k.2.2.2.2.2.1,k.2.2.2.2.2.2.1,v,k.2.2.2.2.2.2.2.2)
abbrev CK.sigs (k:CK):List (List UInt8×En.Dop.N8):=k.2.2.2.2.2.2.2.2.1
abbrev CK.JJ (k:CK) (v:List (List UInt8×En.Dop.N8)):CK:=(k.1,k.2.1,k.2.2.1,k.2.2.2.1,k.2.2.2.2.1,k.2.2.2.2.2.1,k.2.2.2.2.2.2.1,k.2.2.2.2.2.2.2.1,v,k.2.2.2.2.2.2.2.2.2)
abbrev CK.taken (k:CK):List (List UInt8×Int):=k.2.2.2.2.2.2.2.2.2.1
abbrev CK.bC (k:CK) (v:List (List UInt8×Int)):CK:=(k.1,k.2.1,k.2.2.1,k.2.2.2.1,k.2.2.2.2.1,k.2.2.2.2.2.1,k.2.2.2.2.2.2.1,k.2.2.2.2.2.2.2.1,k.2.2.2.2.2.2.2.2.1,v,k.2.2.2.2.2.2.2.2.2.2)
abbrev CK.f (k:CK):En.Dop.Dc:=k.2.2.2.2.2.2.2.2.2.2.1
abbrev CK.Y9 (k:CK) (v:En.Dop.Dc):CK:=(k.1,k.2.1,k.2.2.1,k.2.2.2.1,k.2.2.2.2.1,k.2.2.2.2.2.1,k.2.2.2.2.2.2.1,k.2.2.2.2.2.2.2.1,k.2.2.2.2.2.2.2.2.1,k.2.2.2.2.2.2.2.2.2.1,v,k.2.2.2.2.2.2.2.2.2.2.2)
abbrev CK.DI (k:CK):Int:=k.2.2.2.2.2.2.2.2.2.2.2.1
abbrev CK.MF (k:CK) (v:Int):CK:=(k.1,k.2.1,k.2.2.1,k.2.2.2.1,k.2.2.2.2.1,k.2.2.2.2.2.1,k.2.2.2.2.2.2.1,k.2.2.2.2.2.2.2.1,k.2.2.2.2.2.2.2.2.1,k.2.2.2.2.2.2.2.2.2.1,k.2.2.2.2.2.2.2.2.2.2.1,v,k.2.2.2.2.2.2.2.2.2.2.2.2)
abbrev CK.labels (k:CK):List (List UInt8×Int):=k.2.2.2.2.2.2.2.2.2.2.2.2.1
abbrev CK.Ro (k:CK) (v:List (List UInt8×Int)):CK:=(k.1,k.2.1,k.2.2.1,k.2.2.2.1,k.2.2.2.2.1,k.2.2.2.2.2.1,k.2.2.2.2.2.2.1,k.2.2.2.2.2.2.2.1,k.2.2.2.2.2.2.2.2.1,k.2.2.2.2.2.2.2.2.2.1,k.2.2.2.2.2.2.2.2.2.2.1,k.2.2.2.2.2.2.2.2.2.2.2.1,v,k.2.2.2.2.2.2.2.2.2.2.2.2.2)
abbrev CK.gotos (k:CK):List (List UInt8×Int):=k.2.2.2.2.2.2.2.2.2.2.2.2.2.1
abbrev CK.bB (k:CK) (v:List (List UInt8×Int)):CK:=(k.1,k.2.1,k.2.2.1,k.2.2.2.1,k.2.2.2.2.1,k.2.2.2.2.2.1,k.2.2.2.2.2.2.1,k.2.2.2.2.2.2.2.1,k.2.2.2.2.2.2.2.2.1,k.2.2.2.2.2.2.2.2.2.1,k.2.2.2.2.2.2.2.2.2.2.1,k.2.2.2.2.2.2.2.2.2.2.2.1,k.2.2.2.2.2.2.2.2.2.2.2.2.1,v,k.2.2.2.2.2.2.2.2.2.2.2.2.2.2)
abbrev CK.loops (k:CK):Int:=k.2.2.2.2.2.2.2.2.2.2.2.2.2.2.1
abbrev CK.IU (k:CK) (v:Int):CK:=(k.1,k.2.1,k.2.2.1,k.2.2.2.1,k.2.2.2.2.1,k.2.2.2.2.2.1,k.2.2.2.2.2.2.1,k.2.2.2.2.2.2.2.1,k.2.2.2.2.2.2.2.2.1,k.2.2.2.2.2.2.2.2.2.1,k.2.2.2.2.2.2.2.2.2.2.1,k.2.2.2.2.2.2.2.2.2.2.2.1,k.2.2.2.2.2.2.2.2.2.2.2.2.1,k.2.2.2.2.2.2.2.2.2.2.2.2.2.1,v,k.2.2.2.2.2.2.2.2.2.2.2.2.2.2.2)
abbrev CK.MH (k:CK):List (List (Int×Int)):=k.2.2.2.2.2.2.2.2.2.2.2.2.2.2.2.1
abbrev CK.Ow (k:CK) (v:List (List (Int×Int))):CK:=(k.1,k.2.1,k.2.2.1,k.2.2.2.1,k.2.2.2.2.1,k.2.2.2.2.2.1,k.2.2.2.2.2.2.1,k.2.2.2.2.2.2.2.1,k.2.2.2.2.2.2.2.2.1,k.2.2.2.2.2.2.2.2.2.1,k.2.2.2.2.2.2.2.2.2.2.1,k.2.2.2.2.2.2.2.2.2.2.2.1,k.2.2.2.2.2.2.2.2.2.2.2.2.1,k.2.2.2.2.2.2.2.2.2.2.2.2.2.1,k.2.2.2.2.2.2.2.2.2.2.2.2.2.2.1,v,k.2.2.2.2.2.2.2.2.2.2.2.2.2.2.2.2)
abbrev CK.LP (k:CK):Int:=k.2.2.2.2.2.2.2.2.2.2.2.2.2.2.2.2.1
abbrev CK.LL (k:CK) (v:Int):CK:=(k.1,k.2.1,k.2.2.1,k.2.2.2.1,k.2.2.2.2.1,k.2.2.2.2.2.1,k.2.2.2.2.2.2.1,k.2.2.2.2.2.2.2.1,k.2.2.2.2.2.2.2.2.1,k.2.2.2.2.2.2.2.2.2.1,k.2.2.2.2.2.2.2.2.2.2.1,k.2.2.2.2.2.2.2.2.2.2.2.1,k.2.2.2.2.2.2.2.2.2.2.2.2.1,k.2.2.2.2.2.2.2.2.2.2.2.2.2.1,k.2.2.2.2.2.2.2.2.2.2.2.2.2.2.1,k.2.2.2.2.2.2.2.2.2.2.2.2.2.2.2.1,v,k.2.2.2.2.2.2.2.2.2.2.2.2.2.2.2.2.2)
abbrev CK.e (k:CK):Int:=k.2.2.2.2.2.2.2.2.2.2.2.2.2.2.2.2.2.1
abbrev CK.Y8 (k:CK) (v:Int):CK:=(k.1,k.2.1,k.2.2.1,k.2.2.2.1,k.2.2.2.2.1,k.2.2.2.2.2.1,k.2.2.2.2.2.2.1,k.2.2.2.2.2.2.2.1,k.2.2.2.2.2.2.2.2.1,k.2.2.2.2.2.2.2.2.2.1,k.2.2.2.2.2.2.2.2.2.2.1,k.2.2.2.2.2.2.2.2.2.2.2.1,k.2.2.2.2.2.2.2.2.2.2.2.2.1,k.2.2.2.2.2.2.2.2.2.2.2.2.2.1,k.2.2.2.2.2.2.2.2.2.2.2.2.2.2.1,k.2.2.2.2.2.2.2.2.2.2.2.2.2.2.2.1,k.2.2.2.2.2.2.2.2.2.2.2.2.2.2.2.2.1,v,k.2.2.2.2.2.2.2.2.2.2.2.2.2.2.2.2.2.2)
abbrev CK.when (k:CK):Int:=k.2.2.2.2.2.2.2.2.2.2.2.2.2.2.2.2.2.2.1
abbrev CK.FX (k:CK) (v:Int):CK:=(k.1,k.2.1,k.2.2.1,k.2.2.2.1,k.2.2.2.2.1,k.2.2.2.2.2.1,k.2.2.2.2.2.2.1,k.2.2.2.2.2.2.2.1,k.2.2.2.2.2.2.2.2.1,k.2.2.2.2.2.2.2.2.2.1,k.2.2.2.2.2.2.2.2.2.2.1,k.2.2.2.2.2.2.2.2.2.2.2.1,k.2.2.2.2.2.2.2.2.2.2.2.2.1,k.2.2.2.2.2.2.2.2.2.2.2.2.2.1,k.2.2.2.2.2.2.2.2.2.2.2.2.2.2.1,k.2.2.2.2.2.2.2.2.2.2.2.2.2.2.2.1,k.2.2.2.2.2.2.2.2.2.2.2.2.2.2.2.2.1,k.2.2.2.2.2.2.2.2.2.2.2.2.2.2.2.2.2.1,v,k.2.2.2.2.2.2.2.2.2.2.2.2.2.2.2.2.2.2.2)
abbrev CK.b0:En.Gh:=⟨0,70,[.st 7,.al 1 0,.own 0 3,.own 11 67,.own 12 51,.st 0,.own 5 73,.mr (.str) 9 true 62,.mp (.str) 15 true,.mp (.str) 0 false,.st 11,.st 0,.mp (.str) 0 false,.mp (.str) 0 false,.st 0,.mr (.int .i64) 0 false 152,.st 0,.fd (.int .i64),.st 0],false⟩
abbrev CK.b1:En.Gh:=⟨1,70,[.st 7,.al 2 0,.own 0 3,.own 11 67,.own 12 51,.st 0,.own 5 73,.mr (.str) 9 true 62,.mp (.str) 15 true,.mp (.str) 0 false,.st 11,.st 0,.mp (.str) 0 false,.mp (.str) 0 false,.st 0,.mr (.int .i64) 0 false 152,.st 0,.fd (.int .i64),.st 0],false⟩
abbrev CT:Type:=List (En.Dop.HC)×List (List UInt8×List (En.Dop.WO))×Unit
abbrev CT.l (k:CT):List (En.Dop.HC):=k.1
abbrev CT.nP (k:CT) (v:List (En.Dop.HC)):CT:=(v,k.2)
abbrev CT.fields (k:CT):List (List UInt8×List (En.Dop.WO)):=k.2.1
abbrev CT.b0:En.Gh:=⟨0,101,[.own 6 95,.mp (.str) 17 false],false⟩
abbrev CT.b1:En.Gh:=⟨1,101,[.own 6 95,.mp (.str) 17 false],false⟩
abbrev CT.b2:En.Gh:=⟨2,101,[.own 6 95,.mp (.str) 17 false],false⟩
end Go.Proofs
set_option maxRecDepth 100000
set_option maxHeartbeats 4000000
namespace Go.Proofs.Tryz
open Go Go.En
def Et.p:Ai:=⟨[],1,⟨[.al 0 0,.fd (.int .i64)],[CT.b0]⟩,⟨[.st 6,.fd .bool],[CT.b0]⟩,false,[],[]⟩
theorem Et.ok:AG Dop.D4 prog 77 Et.p=true:=by kernel_rfl
def I8.p:Ai:=⟨[],1,⟨[.al 0 0,.st 6],[CT.b0]⟩,⟨[.fd (.int .i64),.fd (.int .i64)],[CT.b0]⟩,false,[(1,⟨[(0,true),(1,true),(2,true),(3,false),(4,false),(5,false),(6,true)],[],[0,1,3,7,0,31,63],true⟩),(6,⟨[(0,true),(1,true),(2,true),(3,true),(4,false),(5,false),(6,false)],[7,8,9,10],[0,0,2,6,14,0,32,126,255,511,1023],false⟩)],[]⟩
theorem I8.ok:AG Dop.D4 prog 105 I8.p=true:=by kernel_rfl
def I5.p:Ai:=⟨[],1,⟨[.al 0 0,.fd (.int .i64)],[CT.b0]⟩,⟨[.fd (.int .i64),.fd (.int .i64)],[CT.b0]⟩,false,[],[]⟩
theorem I5.ok:AG Dop.D4 prog 73 I5.p=true:=by kernel_rfl
abbrev Bf.Us:Cut:=⟨[[0,0,0,0,1,0,1,0,1,1,1,1,1,0,0,1,1],[0,1,0,0,1,0,1,0,1,1,1,1,1,0,0,1,1],[2,0,0,1,0,1,0,1,1,1,1,1,0,0,1,1],[1,1],[0,1,1,0,1,1,1,1,1,0,0,1,1],[1,0],[0,1,1,1]],[0,10,54,55,56],1,⟨[.al 0 0,.fd (.int .i64),.fd (.sl 16),.fd (.int .i64),.fd (.int .i64)],[CT.b0]⟩⟩
def Bf.p:Ai:=⟨[(10,Bf.Us)],1,⟨[.al 0 0,.fd (.int .i64)],[CT.b0]⟩,⟨[.fd (.int .i64),.fd .bool],[CT.b0]⟩,false,[(9,⟨[(0,true),(1,true),(2,true),(3,false),(4,true),(5,false),(6,false),(7,false),(8,true)],[],[0,1,3,7,0,16,63,127,0],false⟩)],[]⟩
theorem Bf.ok:AG Dop.D4 prog 35 Bf.p=true:=by kernel_rfl
abbrev F5.T:Type:=(((Unit×Int×Unit)×(CT×Unit))->Option ((Int×Bool×Unit)×(CT×Unit)))×Unit
def Kk.p:Ai:=⟨[],1,⟨[.al 0 0,.fd (.int .i64),.fd (.int .i64)],[CT.b0]⟩,⟨[.fd (.int .i64),.fd (.int .i64)],[CT.b0]⟩,false,[],[]⟩
theorem Kk.ok:AG Dop.D4 prog 74 Kk.p=true:=by kernel_rfl
def I6.p:Ai:=⟨[],1,⟨[.al 0 0,.fd .str],[CT.b0]⟩,⟨[.fd (.int .i64),.fd (.int .i64)],[CT.b0]⟩,false,[],[]⟩
theorem I6.ok:AG Dop.D4 prog 75 I6.p=true:=by kernel_rfl
def DZ.p:Ai:=⟨[],1,⟨[.al 0 0,.fd (.int .i64)],[CT.b0]⟩,⟨[.fd .bool],[CT.b0]⟩,false,[],[]⟩
theorem DZ.ok:AG Dop.D4 prog 39 DZ.p=true:=by kernel_rfl
abbrev Hn.q6:Cut:=⟨[[0,0,0,0,1,0,1,1,1,1],[0,1,0,0,1,0,1,1,1,1],[2,0,0,1,0,1,1,1,1],[1,0],[0,1,1,1,1,1]],[0,2,11,35,36,37],1,⟨[.al 0 0,.fd .str,.fd (.int .i64),.fd (.sl 16),.fd (.int .i64),.fd (.int .i64)],[CT.b0]⟩⟩
def Hn.p:Ai:=⟨[(6,Hn.q6)],1,⟨[.al 0 0,.fd (.int .i64),.fd .str],[CT.b0]⟩,⟨[.fd (.int .i64),.fd (.int .i64),.fd .bool],[CT.b0]⟩,false,[(5,⟨[(0,true),(1,true),(2,true),(3,false),(4,true),(5,false),(6,false),(7,false),(8,true)],[],[0,1,3,7,0,16,63,127,0],false⟩),(9,⟨[(0,true),(1,true),(2,false),(3,true),(4,true),(5,true)],[],[0,0,2,1,15,31],false⟩)],[]⟩
theorem Hn.ok:AG Dop.D4 prog 173 Hn.p=true:=by kernel_rfl
def N9.p:Ai:=⟨[],2,⟨[.al 0 0,.fd (.int .i64)],[CK.b0,CT.b1]⟩,⟨[.st 5],[CK.b0,CT.b1]⟩,false,[],[]⟩
theorem N9.ok:AG Dop.D4 prog 17 N9.p=true:=by kernel_rfl
def Aw.p:Ai:=⟨[],2,⟨[.al 0 0,.fd (.int .i64),.fd (.int .i64)],[CK.b0,CT.b1]⟩,⟨[.st 10],[CK.b0,CT.b1]⟩,false,[],[]⟩
theorem Aw.ok:AG Dop.D4 prog 34 Aw.p=true:=by kernel_rfl
def Cu.p:Ai:=⟨[],2,⟨[.al 0 0,.fd (.int .i64)],[CK.b0,CT.b1]⟩,⟨[.fd (.int .i64)],[CK.b0,CT.b1]⟩,false,[],[]⟩
theorem Cu.ok:AG Dop.D4 prog 38 Cu.p=true:=by kernel_rfl
def Dt.p:Ai:=⟨[],2,⟨[.al 0 0,.fd (.int .i64)],[CK.b0,CT.b1]⟩,⟨[.fd .bool],[CK.b0,CT.b1]⟩,false,[],[]⟩
theorem Dt.ok:AG Dop.D4 prog 36 Dt.p=true:=by kernel_rfl
def F8.p:Ai:=⟨[],2,⟨[.al 0 0,.fd (.int .i64)],[CK.b0,CT.b1]⟩,⟨[.fd (.int .i64),.fd (.int .i64)],[CK.b0,CT.b1]⟩,false,[(2,⟨[(0,true),(1,true),(2,true),(3,false),(4,true),(5,false),(6,false),(7,true),(8,true),(9,true),(10,true),(11,true)],[2000000],[0,1,3,7,0,16,63,127,255,255,511,2047],false⟩)],[]⟩
theorem F8.ok:AG Dop.D4 prog 141 F8.p=true:=by kernel_rfl
def Ju.p:Ai:=⟨[],2,⟨[.al 0 0,.fd (.int .i64)],[CK.b0,CT.b1]⟩,⟨[.fd .bool],[CK.b0,CT.b1]⟩,false,[],[]⟩
theorem Ju.ok:AG Dop.D4 prog 167 Ju.p=true:=by kernel_rfl
def G0.p:Ai:=⟨[],2,⟨[.al 0 0,.fd (.int .i64),.fd (.int .i64)],[CK.b0,CT.b1]⟩,⟨[.fd (.int .i64)],[CK.b0,CT.b1]⟩,false,[],[]⟩
theorem G0.ok:AG Dop.D4 prog 165 G0.p=true:=by kernel_rfl
def Ba.p:Ai:=⟨[],2,⟨[.al 0 0,.fd (.int .i64),.fd (.int .i64),.fd (.int .i64),.fd (.int .i64),.fd (.int .i64),.fd .str],[CK.b0,CT.b1]⟩,⟨[.fd (.int .i64)],[CK.b0,CT.b1]⟩,false,[],[]⟩
noncomputable def Ba.E:Env Dop.D4:=Aj prog 43 tb [] Ba.p
theorem Ba.ok:AG Dop.D4 prog 43 Ba.p=true:=by kernel_rfl
noncomputable def Ba.c:By Dop.D4:=⟨43,Ba.p.bn,Ba.p.sp,Ba.p.rs,Ba.p.flat,.opt (Ba.E.run 3000 Ba.p.sp)⟩
theorem Ba.holds:Ba.c.Holds prog:=E6 3000 AH Br Ba.ok
def Eh.p:Ai:=⟨[],0,⟨[.fd (.int .i64)],[]⟩,⟨[.fd (.int .i64)],[]⟩,true,[],[]⟩
theorem Eh.ok:AG Dop.D4 prog 37 Eh.p=true:=by kernel_rfl
def Eu.p:Ai:=⟨[],2,⟨[.al 0 0,.fd (.int .i64)],[CK.b0,CT.b1]⟩,⟨[.fd (.int .i64)],[CK.b0,CT.b1]⟩,false,[],[]⟩
theorem Eu.ok:AG Dop.D4 prog 79 Eu.p=true:=by kernel_rfl
def EK.p:Ai:=⟨[],2,⟨[.al 0 0,.fd (.int .i64)],[CK.b0,CT.b1]⟩,⟨[.fd (.int .i64)],[CK.b0,CT.b1]⟩,false,[],[]⟩
theorem EK.ok:AG Dop.D4 prog 45 EK.p=true:=by kernel_rfl
def I7.p:Ai:=⟨[],2,⟨[.al 0 0,.fd (.int .i64)],[CK.b0,CT.b1]⟩,⟨[.fd (.int .i64)],[CK.b0,CT.b1]⟩,false,[],[]⟩
theorem I7.ok:AG Dop.D4 prog 78 I7.p=true:=by kernel_rfl
def JB.p:Ai:=⟨[],2,⟨[.al 0 0,.fd (.int .i64)],[CK.b0,CT.b1]⟩,⟨[.fd (.int .i64)],[CK.b0,CT.b1]⟩,false,[],[]⟩
theorem JB.ok:AG Dop.D4 prog 163 JB.p=true:=by kernel_rfl
def Kl.p:Ai:=⟨[],2,⟨[.al 0 0,.fd (.int .i64)],[CK.b0,CT.b1]⟩,⟨[.fd (.int .i64)],[CK.b0,CT.b1]⟩,false,[],[]⟩
theorem Kl.ok:AG Dop.D4 prog 164 Kl.p=true:=by kernel_rfl
def I9.p:Ai:=⟨[],2,⟨[.al 0 0,.fd (.int .i64),.fd (.int .i64)],[CK.b0,CT.b1]⟩,⟨[.st 10],[CK.b0,CT.b1]⟩,false,[],[]⟩
theorem I9.ok:AG Dop.D4 prog 130 I9.p=true:=by kernel_rfl
def Fe.p:Ai:=⟨[],2,⟨[.al 0 0,.st 9],[CK.b0,CT.b1]⟩,⟨[.fd (.int .i64)],[CK.b0,CT.b1]⟩,false,[],[]⟩
theorem Fe.ok:AG Dop.D4 prog 44 Fe.p=true:=by kernel_rfl
def Hl.p:Ai:=⟨[],2,⟨[.al 0 0,.fd (.int .i64),.fd (.int .i64)],[CK.b0,CT.b1]⟩,⟨[.fd (.int .i64)],[CK.b0,CT.b1]⟩,false,[],[]⟩
theorem Hl.ok:AG Dop.D4 prog 142 Hl.p=true:=by kernel_rfl
def Hm.p:Ai:=⟨[],2,⟨[.al 0 0,.fd (.int .i64),.fd (.int .i64)],[CK.b0,CT.b1]⟩,⟨[.fd (.int .i64)],[CK.b0,CT.b1]⟩,false,[],[]⟩
theorem Hm.ok:AG Dop.D4 prog 143 Hm.p=true:=by kernel_rfl
def B3.p:Ai:=⟨[],2,⟨[.al 0 0,.fd (.int .i64),.fd (.int .i64),.fd (.int .i64),.fd (.int .i64),.fd (.int .i64),.fd (.int .i64),.fd .str],[CK.b0,CT.b1]⟩,⟨[.fd (.int .i64)],[CK.b0,CT.b1]⟩,false,[],[]⟩
theorem B3.ok:AG Dop.D4 prog 42 B3.p=true:=by kernel_rfl
abbrev BO.q7:Cut:=⟨[[0,0,0,1,1,1,1],[0,1,0,1,1,1,1],[0,1,1,1,1,1]],[0,2,3,4,6,11,12,13],3,⟨[.al 0 0,.fd (.int .i64),.fd (.int .i64),.fd .bool,.al 2 0,.fd (.int .i64),.fd (.int .i64),.fd .bool],[CK.b0,CT.b1,⟨2,107,[.st 10],false⟩]⟩⟩
abbrev BO.cR:Cut:=⟨[[0,0,0,1,1,1,1,1,1],[0,1,0,1,1,1,1,1,1],[0,1,1,1,1,1,1,1]],[0,3,6,11,12,13],3,⟨[.al 0 0,.fd (.int .i64),.al 2 0,.fd (.int .i64),.fd (.int .i64),.fd .bool],[CK.b0,CT.b1,⟨2,107,[.st 10],false⟩]⟩⟩
def BO.p:Ai:=⟨[(7,BO.q7),(11,BO.cR)],2,⟨[.al 0 0,.st 10,.fd (.int .i64),.fd (.int .i64),.fd .bool],[CK.b0,CT.b1]⟩,⟨[.fd (.int .i64)],[CK.b0,CT.b1]⟩,false,[(10,⟨[(0,true),(1,true),(2,true),(3,false),(4,true),(5,false),(6,false),(7,true),(8,true),(9,true),(10,true),(11,false),(12,true),(13,false),(14,true),(15,true)],[2000000],[0,1,3,7,0,16,63,127,255,511,1023,2047,255,8191,16383,32767],false⟩)],[]⟩
theorem BO.ok:AG Dop.D4 prog 107 BO.p=true:=by kernel_rfl
def Cq.p:Ai:=⟨[],2,⟨[.al 0 0,.fd (.int .i64),.fd (.int .i64),.fd (.int .i64)],[CK.b0,CT.b1]⟩,⟨[.fd (.int .i64)],[CK.b0,CT.b1]⟩,false,[],[]⟩
theorem Cq.ok:AG Dop.D4 prog 168 Cq.p=true:=by kernel_rfl
def GU.p:Ai:=⟨[],2,⟨[.al 0 0,.fd (.int .i64),.fd (.int .i64)],[CK.b0,CT.b1]⟩,⟨[.fd (.int .i64)],[CK.b0,CT.b1]⟩,false,[],[]⟩
theorem GU.ok:AG Dop.D4 prog 169 GU.p=true:=by kernel_rfl
abbrev C7.q2:Cut:=⟨[[0,0,0,0,0,1,0,1],[0,1,0,0,0,1,0,1],[0,1,0,0,1,0,1],[2,0,0,1,0,1],[1,0],[0,1,1]],[0,1,2,7],2,⟨[.al 0 0,.fd (.int .i64),.fd (.int .i64),.fd (.int .i64)],[CK.b0,CT.b1]⟩⟩
abbrev C7.Zd:Cut:=⟨[[0,0,0,1,1,1,0,0,1,0,0,1,0,1],[0,1,0,1,1,1,0,0,1,0,0,1,0,1],[0,1,1,1,1,0,0,1,0,0,1,0,1],[1,1],[0,1,1,0,0,1,0,1],[2,0,0,1,0,1],[1,0],[0,1,1]],[0,1,2,7,9,10],2,⟨[.al 0 0,.fd (.int .i64),.fd (.int .i64),.fd (.int .i64),.fd (.int .i64),.fd (.int .i64)],[CK.b0,CT.b1]⟩⟩
def C7.p:Ai:=⟨[(2,C7.q2),(13,C7.Zd)],2,⟨[.al 0 0,.fd (.int .i64),.fd (.int .i64)],[CK.b0,CT.b1]⟩,⟨[.fd (.int .i64)],[CK.b0,CT.b1]⟩,false,[(8,⟨[(0,true),(1,true),(2,true),(3,false),(4,true),(5,true),(6,true),(7,false),(8,true),(9,false),(10,false),(11,false),(12,false),(13,true),(14,true),(15,true),(16,true),(17,true)],[2000000],[0,1,3,7,0,16,48,112,0,256,1008,2032,4095,8191,16383,16383,32767,131071],false⟩),(10,⟨[(0,true),(1,true),(2,true),(3,false),(4,true),(5,true),(6,true),(7,false),(8,true),(9,false),(10,false),(11,false),(12,true),(13,false),(14,false),(15,true),(16,true),(17,true),(18,true),(19,true)],[2000000],[0,1,3,7,0,16,48,112,0,256,1008,2032,0,4096,16383,32767,65535,65535,131071,524287],false⟩),(12,⟨[(0,true),(1,true),(2,true),(3,false),(4,true),(5,false),(6,false),(7,true),(8,true),(9,true),(10,true),(11,true)],[2000000],[0,1,3,7,0,16,63,127,255,255,511,2047],false⟩)],[]⟩
theorem C7.ok:AG Dop.D4 prog 32 C7.p=true:=by kernel_rfl
def JA.p:Ai:=⟨[],2,⟨[.al 0 0,.st 10,.fd (.int .i64)],[CK.b0,CT.b1]⟩,⟨[.st 10],[CK.b0,CT.b1]⟩,false,[],[]⟩
theorem JA.ok:AG Dop.D4 prog 138 JA.p=true:=by kernel_rfl
abbrev EL.cR:Cut:=⟨[[0,0,1,1,1,1],[0,1,1,1,1,1]],[0,6,7,8,10,11],6,⟨[.al 0 0,.al 2 0,.al 3 0,.al 4 0,.al 5 0,.fd (.int .i64)],[CK.b0,CT.b1,⟨2,107,[.st 10],false⟩,⟨3,107,[.st 10],false⟩,⟨4,107,[.st 10],false⟩,⟨5,107,[.st 10],false⟩]⟩⟩
def EL.p:Ai:=⟨[(11,EL.cR)],2,⟨[.al 0 0,.st 10,.st 10,.st 10,.fd (.int .i64)],[CK.b0,CT.b1]⟩,⟨[.st 10],[CK.b0,CT.b1]⟩,false,[],[]⟩
theorem EL.ok:AG Dop.D4 prog 137 EL.p=true:=by kernel_rfl
def EW.p:Ai:=⟨[],2,⟨[.al 0 0,.fd (.int .i64),.fd (.int .i64)],[CK.b0,CT.b1]⟩,⟨[.fd (.int .i64)],[CK.b0,CT.b1]⟩,false,[],[]⟩
theorem EW.ok:AG Dop.D4 prog 171 EW.p=true:=by kernel_rfl
def Dh.p:Ai:=⟨[],2,⟨[.al 0 0,.st 10,.fd (.int .i64)],[CK.b0,CT.b1]⟩,⟨[.fd (.int .i64)],[CK.b0,CT.b1]⟩,false,[],[]⟩
theorem Dh.ok:AG Dop.D4 prog 108 Dh.p=true:=by kernel_rfl
def NM.p:Ai:=⟨[],0,⟨[],[]⟩,⟨[.mp (.str) 14 true],[]⟩,true,[],[]⟩
theorem NM.ok:AG Dop.D4 prog 166 NM.p=true:=by kernel_rfl
def Km.p:Ai:=⟨[],2,⟨[.al 0 0,.st 10,.fd (.int .i64)],[CK.b0,CT.b1]⟩,⟨[.fd (.int .i64),.st 10],[CK.b0,CT.b1]⟩,false,[(2,⟨[(0,false),(1,true)],[2],[0,0,3],false⟩),(6,⟨[(0,true),(1,true),(2,true),(3,true),(4,false),(5,false),(6,true),(7,false),(8,true),(9,true),(10,true)],[11,1000000],[0,0,0,0,12,30,0,64,0,510,63,2047],false⟩)],[]⟩
theorem Km.ok:AG Dop.D4 prog 170 Km.p=true:=by kernel_rfl
abbrev Bl.q4:Cut:=⟨[[0,0,1,1,1],[0,1,1,1,1]],[0,1,4,7,8,10,11,12],5,⟨[.al 0 0,.fd .str,.fd (.int .i64),.al 2 0,.al 3 0,.al 4 0,.fd .bool,.fd .bool],[CK.b0,CT.b1,⟨2,107,[.st 10],false⟩,⟨3,107,[.st 10],false⟩,⟨4,107,[.st 10],false⟩]⟩⟩
abbrev Bl.Us:Cut:=⟨[[0,0,0,0,1,1,1,1,1,1,1,1],[0,1,0,0,1,1,1,1,1,1,1,1],[1,0],[0,1,1,1,1,1,1,1,1,1]],[0,1,4,7,8,10,11,12,13,14,16],6,⟨[.al 0 0,.fd .str,.fd (.int .i64),.al 2 0,.al 3 0,.al 4 0,.fd .bool,.fd .bool,.al 5 0,.fd .bool,.fd (.int .i64)],[CK.b0,CT.b1,⟨2,107,[.st 10],false⟩,⟨3,107,[.st 10],false⟩,⟨4,107,[.st 10],false⟩,⟨5,210,[.st 14],false⟩]⟩⟩
abbrev Bl.Zd:Cut:=⟨[[0,0,0,1,0,1,0,0,1,1,1,1,1,1,1,1],[0,1,0,1,0,1,0,0,1,1,1,1,1,1,1,1],[0,1,1,0,1,0,0,1,1,1,1,1,1,1,1],[1,0],[0,1,1,1,1,1,1,1,1,1]],[0,1,7,8,10,13,16],6,⟨[.al 0 0,.fd .str,.al 2 0,.al 3 0,.al 4 0,.al 5 0,.fd (.int .i64)],[CK.b0,CT.b1,⟨2,107,[.st 10],false⟩,⟨3,107,[.st 10],false⟩,⟨4,107,[.st 10],false⟩,⟨5,210,[.st 14],false⟩]⟩⟩
abbrev Bl.eu:Cut:=⟨[[0,0,1,1,0,0,1,1,1,1,1,1,1,1],[0,1,1,1,0,0,1,1,1,1,1,1,1,1],[1,0],[0,1,1,1,1,1,1,1,1,1]],[0,1,4,7,8,10,11,12,13,16],6,⟨[.al 0 0,.fd .str,.fd (.int .i64),.al 2 0,.al 3 0,.al 4 0,.fd .bool,.fd .bool,.al 5 0,.fd (.int .i64)],[CK.b0,CT.b1,⟨2,107,[.st 10],false⟩,⟨3,107,[.st 10],false⟩,⟨4,107,[.st 10],false⟩,⟨5,210,[.st 14],false⟩]⟩⟩
abbrev Bl.nI:Cut:=⟨[[0,0,0,1,1,1,1,1,1,1,1,1,1],[0,1,0,1,1,1,1,1,1,1,1,1,1],[0,1,1,1,1,1,1,1,1,1,1,1]],[0,1,7,8,10,13,16,24],6,⟨[.al 0 0,.fd .str,.al 2 0,.al 3 0,.al 4 0,.al 5 0,.fd (.int .i64),.fd (.int .i64)],[CK.b0,CT.b1,⟨2,107,[.st 10],false⟩,⟨3,107,[.st 10],false⟩,⟨4,107,[.st 10],false⟩,⟨5,210,[.st 14],false⟩]⟩⟩
def Bl.p:Ai:=⟨[(4,Bl.q4),(10,Bl.Us),(13,Bl.Zd),(16,Bl.eu),(33,Bl.nI)],2,⟨[.al 0 0,.fd .str,.st 10,.st 10,.fd (.int .i64)],[CK.b0,CT.b1]⟩,⟨[.st 10],[CK.b0,CT.b1]⟩,false,[(3,⟨[(0,true),(1,true),(2,false),(3,false),(4,true),(5,true),(6,true),(7,false),(8,false),(9,true),(10,true),(11,true)],[1000000],[0,0,2,7,15,0,0,64,239,495,511,2047],false⟩),(14,⟨[(0,true),(1,true),(2,false),(3,false),(4,true),(5,false),(6,true),(7,false),(8,false),(9,true)],[10,1000000],[0,0,2,6,0,16,0,64,255,511,1023],false⟩),(15,⟨[(0,true),(1,true),(2,false),(3,false),(4,true),(5,false),(6,true),(7,false),(8,false),(9,true)],[10,1000000],[0,0,2,6,0,16,0,64,255,511,1023],false⟩),(29,⟨[(0,true),(1,false),(2,false),(3,true),(4,false),(5,true),(6,true),(7,false),(8,true),(9,false),(10,false),(11,true),(12,false),(13,true)],[14,1000000],[0,0,2,0,8,0,0,64,0,480,1023,0,2048,8191,16383],false⟩),(31,⟨[(0,true),(1,false),(2,false),(3,true),(4,true),(5,false),(6,true),(7,false),(8,true),(9,false),(10,false),(11,true),(12,false),(13,true)],[14,1000000],[0,0,2,0,0,16,0,120,0,256,1023,0,2048,8191,16383],false⟩),(37,⟨[(0,true),(1,true),(2,false),(3,false),(4,true),(5,false),(6,true),(7,false),(8,false),(9,true),(10,true)],[11,1000000],[0,0,2,6,0,16,0,64,255,0,1023,2047],false⟩)],[]⟩
theorem Bl.ok:AG Dop.D4 prog 132 Bl.p=true:=by kernel_rfl
end Go.Proofs.Tryz
namespace Go.Proofs
open Go Go.En Go.RowKit
def Tryz.Ab.p:Ai:=⟨[],2,⟨[.al 0 0,.fd (.sl 0)],[CK.b0,CT.b1]⟩,⟨[.fd (.int .i64)],[CK.b0,CT.b1]⟩,false,[],[(71,[])]⟩
noncomputable def Tryz.Ab.E:Env En.Dop.D4:=Aj Tryz.prog 47 Tryz.tb [Tryz.Ba.c] Tryz.Ab.p
theorem Tryz.Ab.ok:AG En.Dop.D4 Tryz.prog 47 Tryz.Ab.p=true:=by kernel_rfl
abbrev Ig:En.Spec:=⟨[],[CK.b0,CT.b1,⟨2,59,[.al 0 0],false⟩,⟨3,3,[.fd (.int .i64)],false⟩]⟩
abbrev lN:En.Spec:=⟨[.al 2 0,.al 3 0,.fd (.int .i64)],[CK.b0,CT.b1,⟨2,59,[.al 0 0],false⟩,⟨3,3,[.fd (.int .i64)],false⟩]⟩
noncomputable def Tryz.Ab.step (x:Int) (y:En.Spec.D En.Dop.D4 Ig):Option (En.Spec.D En.Dop.D4 Ig):=
 (Tz Tryz.Ab.E 3000 [1,0,1,0,1,1] (As (AP Tryz.prog 47) [1,0,1,0,1,1]) lN Ig [2,5,7] 4 (((),(),x,()),y.2)).eval (fun _ _=>none)
noncomputable abbrev lL:Code:=As (AP Tryz.prog 47) [0,0,1,0,1,1]
noncomputable abbrev lq:Code:=As (AP Tryz.prog 47) [1,0,1,0,1,1]
noncomputable abbrev lM:Code:=As (AP Tryz.prog 47) [1,1,1]
noncomputable def Tryz.Ab.go:List Int->En.Spec.D En.Dop.D4 Ig->Option (En.Spec.D En.Dop.D4 Ig)
 | [],y=>some y
 | x::r,y=>(Tryz.Ab.step x y).bind (Tryz.Ab.go r)
theorem Tryz.Ab.I1: ∀ (l r:List Int) (y:En.Spec.D En.Dop.D4 Ig),Tryz.Ab.go (l++r) y=(Tryz.Ab.go l y).bind (Tryz.Ab.go r)
 | [],r,y=>rfl
 | x::l,r,y=>by
  simp only [List.cons_append,Tryz.Ab.go]
  cases Tryz.Ab.step x y with
  | none=>rfl
  | some z=>exact Tryz.Ab.I1 l r z
noncomputable def Tryz.Ab.R (x:En.Spec.D En.Dop.D4 Tryz.Ab.p.sp):Option (En.Spec.D En.Dop.D4 Tryz.Ab.p.rs):=
 match decide (x.1.2.1.length<9223372036854775807) with
 | true=>(Tryz.Ab.go x.1.2.1.reverse ((),(x.2.1,x.2.2.1,((),()),(-1,()),()))).bind fun y=>some ((y.2.2.2.2.1.1,()),(y.2.1,y.2.2.1,()))
 | false=>none
noncomputable def Tryz.Ab.c:By En.Dop.D4:=⟨47,Tryz.Ab.p.bn,Tryz.Ab.p.sp,Tryz.Ab.p.rs,Tryz.Ab.p.flat,.opt Tryz.Ab.R⟩
noncomputable def gx (l:List Int) (x:En.Spec.D En.Dop.D4 ⟨[],[CK.b0,CT.b1]⟩):St En.Dop.D4:=match En.Spec.enc (S:=En.Dop.D4) ⟨[.al 0 0,.fd (.sl 0)],[CK.b0,CT.b1]⟩ (((),l,()),x.2) 2 with
 | (_,o,_)=>⟨[(0,.ptr 0 0),(1,.h 2),(2,.ptr 17 0),(4,.v (.int .i64 0)),(5,.ptr 18 0),(8,.h 2),(9,.fn 104 [.ptr 19 0])],(19,.AN 46 [.h 2])::(18,.AN 3 [.v (.int .i64 (-1))])::(17,.AN 59 [.ptr 0 0])::o,20,17⟩
theorem Tryz.Ab.part (l:List Int) (x:En.Spec.D En.Dop.D4 ⟨[],[CK.b0,CT.b1]⟩) (vs:List SV) (o:List (Nat×En.Own En.Dop.D4)) (n:Nat) (h:En.Spec.enc (S:=En.Dop.D4) ⟨[.al 0 0,.fd (.sl 0)],[CK.b0,CT.b1]⟩ (((),l,()),x.2) 2=(vs,o,n)):
  Ou Tryz.Ab.E 3000 [.code [] (AP Tryz.prog 47)] ⟨Bj 0 vs,o,n,17⟩=.ret ([.code [0,1,0,1,1] (.rangeFunc (.tmp 9) #[10,11] lL lq),.AN 0,.code [1,1,1] lM],gx l x):=by
 cases h
 kernel_rfl
noncomputable def Wh:Oper:=match lL with
 | .region _ ⟨o::_⟩ _=>o
 | _=>default
theorem dK:lL=.region 3 #[Wh] false:=by kernel_rfl
theorem T3:Wh.op=.assign (.tmp 11):=by kernel_rfl
theorem MZ:Wh.dst=some 7:=by kernel_rfl
theorem Sk:Wh.guard=none:=by kernel_rfl
noncomputable def Wi:Array Oper:=match lM with
 | .seq (.region _ o _) _=>o
 | _=>#[]
theorem dM:lM=.seq (.region 5 Wi false) .ret:=by kernel_rfl
theorem dL:HJ (AP Tryz.prog 47) [1,0,1,0,1,1]=some lq:=by kernel_rfl
theorem iU:Nb (AP Tryz.prog 47)=true:=by kernel_rfl
theorem VT (l:List Int) (x:En.Spec.D En.Dop.D4 ⟨[],[CK.b0,CT.b1]⟩):((En.Spec.parse (S:=En.Dop.D4) ⟨[.al 2 0,.al 3 0],Ig.bx⟩ true [.ptr 17 0,.ptr 18 0] (gx l x).o (Q3 2) 4).map fun r=>(r.1,lk r.2.o 19,r.2.bl,lk r.2.m 2,lk r.2.m 3,lk r.2.m 0,lk r.2.m 1))=
  some ((((),(),()),(x.2.1,x.2.2.1,((),()),(-1,()),())),some (.AN 46 [.h 2]),[],some 17,some 18,some 0,some 1):=by kernel_rfl
theorem Wj (l:List Int) (x:En.Spec.D En.Dop.D4 ⟨[],[CK.b0,CT.b1]⟩): ∃ ps,En.Spec.parse (S:=En.Dop.D4) ⟨[.al 2 0,.al 3 0],Ig.bx⟩ true [.ptr 17 0,.ptr 18 0] (gx l x).o (Q3 2) 4=some ((((),(),()),(x.2.1,x.2.2.1,((),()),(-1,()),())),ps)/\lk ps.o 19=some (.AN 46 [.h 2])/\ps.bl=[]/\lk ps.m 2=some 17/\lk ps.m 3=some 18/\lk ps.m 0=some 0/\lk ps.m 1=some 1:=by
 obtain ⟨⟨d,ps⟩,h1,h2⟩:=Option.map_eq_some_iff.1 (VT l x)
 simp only [Prod.mk.injEq] at h2
 obtain ⟨h3,h4,h5,h6,h7,h8,h9⟩:=h2
 exact ⟨ps,h1.trans (by rw [<-h3]),h4,h5,h6,h7,h8,h9⟩
theorem dN (y:En.Spec.D En.Dop.D4 Ig):Ou Tryz.Ab.E 3000 [.ops Wi Wi.toList] ⟨[(2,.ptr 2 0),(5,.ptr 3 0)],(Ig.enc (S:=En.Dop.D4) y 4).2.1,(Ig.enc (S:=En.Dop.D4) y 4).2.2,17⟩=
  .ret ([],⟨[(2,.ptr 2 0),(5,.ptr 3 0),(16,.v (.int .i64 y.2.2.2.2.1.1)),(4,.v (.int .i64 y.2.2.2.2.1.1))],(Ig.enc (S:=En.Dop.D4) y 4).2.1,(Ig.enc (S:=En.Dop.D4) y 4).2.2,17⟩):=by kernel_rfl
theorem dO (y:En.Spec.D En.Dop.D4 Ig): ∃ ps,En.Spec.parse (S:=En.Dop.D4) ⟨[.fd (.int .i64)],[CK.b0,CT.b1]⟩ true [.v (.int .i64 y.2.2.2.2.1.1)] (Ig.enc (S:=En.Dop.D4) y 4).2.1 (Q3 2) 2=some (((y.2.2.2.2.1.1,()),(y.2.1,y.2.2.1,())),ps)/\lk ps.m 0=some 0/\lk ps.m 1=some 1:=by
 have h:((En.Spec.parse (S:=En.Dop.D4) ⟨[.fd (.int .i64)],[CK.b0,CT.b1]⟩ true [.v (.int .i64 y.2.2.2.2.1.1)] (Ig.enc (S:=En.Dop.D4) y 4).2.1 (Q3 2) 2).map fun r=>(r.1,lk r.2.m 0,lk r.2.m 1))=some (((y.2.2.2.2.1.1,()),(y.2.1,y.2.2.1,())),some 0,some 1):=by kernel_rfl
 obtain ⟨⟨d,ps⟩,h1,h2⟩:=Option.map_eq_some_iff.1 h
 simp only [Prod.mk.injEq] at h2
 obtain ⟨h3,h4,h5⟩:=h2
 exact ⟨ps,h1.trans (by rw [<-h3]),h4,h5⟩
theorem lr:(Tryz.Ab.E).Ok Tryz.prog/\Bq Tryz.prog 47=true/\Tryz.Ab.p.sp.okB Tryz.Ab.p.bn=true/\ ∃ fn,Tryz.prog.funcs[47]?=some fn/\fn.body=some (AP Tryz.prog 47)/\fn.ntmps=17/\fn.results=#[.tmp 4]:=by
 obtain ⟨h1,h2,h3,fn,h4,h5,h6,h7⟩:=FP (p:=Tryz.Ab.p) Tryz.AH (Ao Tryz.Ba.holds Br) Tryz.Ab.ok
 have e1:Cl Tryz.prog 47=17:=by kernel_rfl
 have e2:ED Tryz.prog 47=[.tmp 4]:=by kernel_rfl
 refine ⟨h1,h2,h3,fn,h4,h5,h6.trans e1,?_⟩
 rw [e2] at h7
 rw [<-h7]
theorem VS {l:Nat} {x:Int×Int} {W:World} {a:Act} {K:Act->World->Prop} (hsz:a.tmps.size=17)
  (h: ∀ a':Act,a'.defers=[]->a'.tmps.size=17->(∀ t,t≠7->t≠10->t≠11->a'.tmps.getD t undef=a.tmps.getD t undef)->a'.tmps.getD 7 undef=.int .i64 x.2->K a' W):
  lL.wpIn (Fence.wide.inRound l) 0 Tryz.prog (Exit.then K (fun _ _ _=>False)) { tmps:=(#[10,11].zip #[Value.int .i64 x.1,Value.int .i64 x.2]).foldl (fun t (p,v)=>t.setIfInBounds p v) a.tmps,defers:=[] } W:=by
 rw [dK]
 refine FL (.inr ⟨⟨l,rfl⟩,fun ⟨_,_,h⟩=>h,fun j o ho=>?_⟩) ?_
 ·cases j with
  | zero=>simp at ho;subst ho;unfold Er;rw [T3]
  | succ j=>simp at ho
 ·show wpList _ _ _ [Wh] _ _
  unfold wpList
  rw [if_pos (by simp [Region.wanted,Sk])]
  refine .inl (An (v:=.int .i64 x.2) (w':=W) ?_ ?_)
  ·simp [execOp,T3,Act.eval,hsz]
  ·refine h _ rfl (by simp [Act.put,MZ,hsz]) (fun t h1 h2 h3=>?_) ?_
   ·simp [Act.put,MZ,Array.getD_eq_getD_getElem?,Array.getElem?_setIfInBounds,Ne.symm h1,Ne.symm h2,Ne.symm h3]
   ·simp [Act.put,MZ,Array.getD_eq_getD_getElem?,Array.getElem?_setIfInBounds,hsz]
def lu (w0 W:World) (F D0 K:Nat->Prop) (β2:Nat->Nm) (y0:En.Spec.D En.Dop.D4 Ig) (pre:List (Int×Int)) (W':World):Prop:=
 ∃ y,Tryz.Ab.go (pre.map Prod.snd) y0=some y/\OD w0 W F D0 K Ig 4 β2 W.heap.size y W'
theorem Zn {w0 W W':World} {F D0 K:Nat->Prop} {β2:Nat->Nm} {y0 yq:En.Spec.D En.Dop.D4 Ig} (hkp:BS En.Dop.D4 w0 F D0) {xs pre rest:List (Int×Int)} {x:Int×Int} (hgo:Tryz.Ab.go (xs.map Prod.snd) y0=some yq) (hxs:xs=pre++x::rest) (hI:lu w0 W F D0 K β2 y0 pre W')
  {a':Act} (hd:a'.defers=[]) (hsz:a'.tmps.size=17) (h2:a'.tmps.getD 2 undef=.pointer (some ⟨(β2 2).AN,0,none⟩)) (h5:a'.tmps.getD 5 undef=.pointer (some ⟨(β2 3).AN,0,none⟩)) (h7:a'.tmps.getD 7 undef=.int .i64 x.2) (l:Nat):
  lq.wpIn (Fence.wide.inRound l) 0 Tryz.prog (ME W.heap.size (lu w0 W F D0 K β2 y0) (fun _ _ _=>False) (pre++[x]) W') a' W':=by
 obtain ⟨y,hy,D,β,vs,o,n,e1,e2,e3,e4,e5,e6,e7,e8,e9⟩:=hI
 obtain ⟨hE,_,_,_⟩:=lr
 have hst: ∃ y',Tryz.Ab.step x.2 y=some y':=by
  rw [hxs,List.map_append,Tryz.Ab.I1,hy] at hgo
  simp only [Option.bind_some,List.map_cons,Tryz.Ab.go] at hgo
  cases hs:Tryz.Ab.step x.2 y with
  | none=>rw [hs] at hgo;cases hgo
  | some y'=>exact ⟨y',rfl⟩
 obtain ⟨y',hy'⟩:=hst
 have he:lN.enc (S:=En.Dop.D4) (((),(),x.2,()),y.2) 4=([.ptr 2 0,.ptr 3 0,.v (.int .i64 x.2)],o,n):=by
  have h:lN.enc (S:=En.Dop.D4) (((),(),x.2,()),y.2) 4=([.ptr 2 0,.ptr 3 0,.v (.int .i64 x.2)],(Ig.enc (S:=En.Dop.D4) y 4).2.1,(Ig.enc (S:=En.Dop.D4) y 4).2.2):=by kernel_rfl
  rw [h,e1]
 refine T0 hE (f0:=3000) (adr:=[1,0,1,0,1,1]) dL iU (sp:=lN) (qe:=Ig) (ts:=[2,5,7]) (bn:=4) (by kernel_rfl) (x:=(((),(),x.2,()),y.2)) (y:=y') hy' he e3.base ?_ e4 (e3.inv hkp) hd hsz ?_ (fun _ _ _ h=>h) (fun ⟨_,_,h⟩=>h) ?_ l
 ·simp only [BR,SV.on,and_true]
  omega
 ·intro j t v hj hv
  match j with
  | 0=>
   simp only [List.getElem?_cons_zero,Option.some.injEq] at hj hv;subst hj;subst hv
   exact ⟨by show 2<17;omega,by rw [h2,<- e2 2 (by omega)];simp only [SV.den]⟩
  | 1=>
   simp only [List.getElem?_cons_succ,List.getElem?_cons_zero,Option.some.injEq] at hj hv;subst hj;subst hv
   exact ⟨by show 5<17;omega,by rw [h5,<- e2 3 (by omega)];simp only [SV.den]⟩
  | 2=>
   simp only [List.getElem?_cons_succ,List.getElem?_cons_zero,Option.some.injEq] at hj hv;subst hj;subst hv
   exact ⟨by show 7<17;omega,by rw [h7];simp only [SV.den]⟩
  | j+3=>simp at hj
 ·intro a'' W'' D' β' vs' o' n' f1 f2 f3 f4
  obtain ⟨g1,g2⟩:=OD.next e3 e2 e5 e6 e7 e8 e9 f1 f2 f3 f4
  refine ⟨g1,y',?_,g2⟩
  rw [List.map_append,Tryz.Ab.I1,hy]
  simp only [Option.bind_some,List.map_cons,List.map_nil,Tryz.Ab.go,hy']
theorem Zp {w:World} {D:Nat->Prop} {β:Nat->Nm} {o0:List (Nat×En.Own En.Dop.D4)} (hkp:BS En.Dop.D4 w (AK o0 β) D) {fn:Func} (hres:fn.results=#[.tmp 4]) {W W':World} {K:Nat->Prop} {β2:Nat->Nm} {yq:En.Spec.D En.Dop.D4 Ig} (hβ: ∀ i,i<2->β2 i=β i) (hm:OD w W (AK o0 β) D K Ig 4 β2 W.heap.size yq W')
  {a:Act} (hd:a.defers=[]) (hsz:a.tmps.size=17) (h2:a.tmps.getD 2 undef=.pointer (some ⟨(β2 2).AN,0,none⟩)) (h5:a.tmps.getD 5 undef=.pointer (some ⟨(β2 3).AN,0,none⟩)) (hK:W'.heap[W.heap.size]?=some (.deferred (some []))):
  lM.wpIn Fence.wide 0 Tryz.prog (LZ (bodyPostM Fence.wide 2 Tryz.prog fn (Dm (S:=En.Dop.D4) Tryz.Ab.c ((yq.2.2.2.2.1.1,()),(yq.2.1,yq.2.2.1,())) w D β o0))) { a with defers:={ target:=.collected W.heap.size,args:=#[] }::a.defers } W':=by
 obtain ⟨D',β',vs,o,n,e1,e2,e3,e4,e5,e6,e7,e8,e9⟩:=hm
 obtain ⟨hE,_,_,_⟩:=lr
 refine wpIn_wide.2 ?_
 rw [dM]
 refine wp_seq (wp_region_list ?_)
 have hkp':=e3.keeps hkp
 have ho:o=(Ig.enc (S:=En.Dop.D4) yq 4).2.1:=by rw [e1]
 have hn:n=(Ig.enc (S:=En.Dop.D4) yq 4).2.2:=by rw [e1]
 have hv:=J3 hE (w0:=W') (F:=AK o β') (D0:=D') (bn:=4) (β0:=β') (f0:=3000) (k0:=[.ops Wi Wi.toList]) (s0:=⟨[(2,.ptr 2 0),(5,.ptr 3 0)],o,n,17⟩)
  (Q:=fun e a' w'=>match e with
   | .normal=>a'.defers=[]/\a'.tmps.getD 4 undef=.int .i64 yq.2.2.2.2.1.1/\ ∃ D2 β3,(∀ i,i<4->β3 i=β' i)/\GH W' (AK o β') D' D2 o (· <n) β3 w'
   | _=>False) hkp' (fun _ _ _ _ _ h=>h) e4 rfl (fun z hz=>by
    simp only [List.mem_cons,List.not_mem_nil,or_false] at hz
    subst hz;trivial) (by
   subst ho;subst hn
   rw [dN]
   intro _ _ D2 β3 a' w' hag hg
   refine ⟨hg.defers,by rw [hg.tmps 4 (.v (.int .i64 yq.2.2.2.2.1.1)) rfl];simp only [SV.den],D2,β3,hag,hg.gh⟩)
 have hl:=hv D' β' { a with defers:=[] } W' (fun _ _=>rfl) ⟨rfl,hsz,fun t x hx=>?_,fun t x hx=>?_,e3.base⟩
 ·simp only [List.map_cons,List.map_nil,Be.it,after] at hl
  have hl2:=DE (ds:=[{ target:=.collected W.heap.size,args:=#[] }]) (Q':=Exit.then (Code.ret.wp Tryz.prog (LZ (bodyPostM Fence.wide 2 Tryz.prog fn (Dm (S:=En.Dop.D4) Tryz.Ab.c ((yq.2.2.2.2.1.1,()),(yq.2.1,yq.2.2.1,())) w D β o0)))) (LZ (bodyPostM Fence.wide 2 Tryz.prog fn (Dm (S:=En.Dop.D4) Tryz.Ab.c ((yq.2.2.2.2.1.1,()),(yq.2.1,yq.2.2.1,())) w D β o0)))) ?_ (fun _ _ _ h=>h.elim) (fun ⟨_,_,h⟩=>h) hl
  ·rw [hd];exact hl2
  ·rintro a' w' ⟨hd',hr,D2,β3,hag,hgh⟩
   refine wp_ret ?_
   obtain ⟨g1,g2⟩:=OD.next e3 e2 e5 e6 e7 e8 e9 e1 hag hgh e4
   have hK':=(g1 W.heap.size (.inl rfl)).trans hK
   show LeavesInM _ _ _ _ _ _ _ _ _
   rw [hd']
   refine ⟨by simp,.inl ⟨_,_,rfl,run_takeDeferred hK',?_⟩⟩
   refine ⟨.int .i64 yq.2.2.2.2.1.1,by rw [<-hr];exact results_tmp hres _ _ _,?_⟩
   obtain ⟨D4,β4,vs4,o4,n4,f1,f2,f3,f4,_⟩:=g2.U8 (.deferred none)
   rcases he:En.Spec.enc (S:=En.Dop.D4) ⟨[.fd (.int .i64)],[CK.b0,CT.b1]⟩ ((yq.2.2.2.2.1.1,()),(yq.2.1,yq.2.2.1,())) 2 with ⟨rs,o5,n5⟩
   have ho4:o4=(Ig.enc (S:=En.Dop.D4) yq 4).2.1:=by rw [f1]
   obtain ⟨ps,hps,hm0,hm1⟩:=dO yq
   rw [<-ho4] at hps
   obtain ⟨β5,b1,b2,b3,b4,b5,_⟩:=En.Spec.B5 f3 hps (by kernel_rfl) he
   have hrs:rs=[.v (.int .i64 yq.2.2.2.2.1.1)]:=by
    have h:En.Spec.enc (S:=En.Dop.D4) ⟨[.fd (.int .i64)],[CK.b0,CT.b1]⟩ ((yq.2.2.2.2.1.1,()),(yq.2.1,yq.2.2.1,())) 2=([.v (.int .i64 yq.2.2.2.2.1.1)],(En.Spec.enc (S:=En.Dop.D4) ⟨[.fd (.int .i64)],[CK.b0,CT.b1]⟩ ((yq.2.2.2.2.1.1,()),(yq.2.1,yq.2.2.1,())) 2).2.1,(En.Spec.enc (S:=En.Dop.D4) ⟨[.fd (.int .i64)],[CK.b0,CT.b1]⟩ ((yq.2.2.2.2.1.1,()),(yq.2.1,yq.2.2.1,())) 2).2.2):=by kernel_rfl
    rw [he] at h
    exact (Prod.mk.inj h).1
   refine ⟨_,β5,rs,o5,n5,he,?_,fun i hi=>?_,b2,b4,b5⟩
   ·rw [hrs];simp only [Az,SV.den]
   ·have hi2:i<2:=hi
    have hmi:lk ps.m i=some i:=by
     match i,hi2 with
     | 0,_=>exact hm0
     | 1,_=>exact hm1
    rw [b1 i hi2 i hmi,f2 i (by omega),hβ i hi2]
 all_goals
  simp only [AI] at hx
  split at hx
  ·rename_i he;subst he;cases hx
   first
    | (refine ⟨by show 2<17;omega,?_⟩;simp only [SV.on];omega)
    | (rw [show ({ a with defers:=[] }:Act).tmps.getD 2 undef=a.tmps.getD 2 undef from rfl,h2,<- e2 2 (by omega)];simp only [SV.den])
  ·split at hx
   ·rename_i he;subst he;cases hx
    first
     | (refine ⟨by show 5<17;omega,?_⟩;simp only [SV.on];omega)
     | (rw [show ({ a with defers:=[] }:Act).tmps.getD 5 undef=a.tmps.getD 5 undef from rfl,h5,<- e2 3 (by omega)];simp only [SV.den])
   ·simp [AS] at hx
theorem Qg (args:Array Value) (w:World):(callFunc 104 args).run Tryz.prog w=.ok (.enter 104 args) w:=Ck (by kernel_rfl)
theorem Tryz.Ab.holds:Tryz.Ab.c.Holds Tryz.prog:=by
 obtain ⟨hE,hbod,hokB,fn,hf,hb,hn',hres⟩:=lr
 refine ⟨hbod,hokB,fun h=>(by cases h),fun x y hxy w D β vs o n he hg hon hn hiv=>?_⟩
 have hxy:Tryz.Ab.R x=some y:=hxy
 unfold Tryz.Ab.R at hxy
 split at hxy
 case h_2=>cases hxy
 rename_i hl
 have hl:=of_decide_eq_true hl
 obtain ⟨yq,hgo,hy⟩:=Option.bind_eq_some_iff.1 hxy
 cases hy
 have hkp:BS En.Dop.D4 w (AK o β) D:=⟨hiv,fun k hk=>⟨hg.C0 k hk,fun ⟨i,b,hi,hik⟩=>hg.off i b k hi hik hk⟩⟩
 have hx:x=(((),x.1.2.1,()),x.2):=rfl
 have he':En.Spec.enc (S:=En.Dop.D4) ⟨[.al 0 0,.fd (.sl 0)],[CK.b0,CT.b1]⟩ (((),x.1.2.1,()),x.2) 2=(vs,o,n):=he
 have hlen:vs.length=2:=En.Spec.Aa he
 refine VC.Ss (M:=0+3000) (bn:=2) hf hb hn' (by omega) hon hg ?_
 refine J3 hE hkp (fun _ _ _ _ _ h=>h) (k0:=[.code [] (AP Tryz.prog 47)]) (s0:=⟨Bj 0 vs,o,n,17⟩) hn rfl (fun z hz=>by
  simp only [List.mem_cons,List.not_mem_nil,or_false] at hz
  subst hz;rfl) ?_
 rw [Tryz.Ab.part x.1.2.1 ((),x.2) vs o n he']
 intro _ _ D1 β1 a W hβ1 hg1
 simp only [List.map_cons,List.map_nil,Be.it,after]
 obtain ⟨ps,hps,hp7,hpbl,hm1,hm2,hm0,hm01⟩:=Wj x.1.2.1 ((),x.2)
 rcases hq:Ig.enc (S:=En.Dop.D4) ((),(x.2.1,x.2.2.1,((),()),(-1,()),())) 4 with ⟨vq,o2,n2⟩
 have he2:En.Spec.enc (S:=En.Dop.D4) ⟨[.al 2 0,.al 3 0],Ig.bx⟩ (((),(),()),(x.2.1,x.2.2.1,((),()),(-1,()),())) 4=([.ptr 2 0,.ptr 3 0],o2,n2):=by
  have h:En.Spec.enc (S:=En.Dop.D4) ⟨[.al 2 0,.al 3 0],Ig.bx⟩ (((),(),()),(x.2.1,x.2.2.1,((),()),(-1,()),())) 4=([.ptr 2 0,.ptr 3 0],(Ig.enc (S:=En.Dop.D4) ((),(x.2.1,x.2.2.1,((),()),(-1,()),())) 4).2.1,(Ig.enc (S:=En.Dop.D4) ((),(x.2.1,x.2.2.1,((),()),(-1,()),())) 4).2.2):=by kernel_rfl
  rw [h,hq]
 obtain ⟨β2,b1,b2,_,_,b5,b6,b7,_,_⟩:=En.Spec.B5 hg1.gh hps (by kernel_rfl) he2
 have r1:=b1 2 (by omega) 17 hm1
 have r2:=b1 3 (by omega) 18 hm2
 have r0:=b1 0 (by omega) 0 hm0
 have hU:=b1 1 (by omega) 1 hm01
 obtain ⟨Bs,hBs,hBh⟩:=hg1.gh.own 19 _ (show lk (gx x.1.2.1 ((),x.2)).o 19=some (.AN 46 [.h 2]) from rfl)
 obtain ⟨_,hrow⟩:=hg1.gh.own 2 _ (show lk (gx x.1.2.1 ((),x.2)).o 2=some (.sl 0 x.1.2.1) by kernel_rfl)
 have A6:(β1 19).AN=Bs:=by unfold Nm.AN;rw [hBs];rfl
 have hBs':Bs<W.heap.size:=(Array.getElem?_eq_some_iff.1 hBh).1
 have hgd:=b2.iK (r:=Bs) (fun i b hi hk=>b6 19 _ i b Bs hp7 (by rw [hpbl];simp) hi (Nm.Es hBs) hk) hBs' (hg1.gh.fresh 19 _ Bs (show lk (gx x.1.2.1 ((),x.2)).o 19=some (.AN 46 [.h 2]) from rfl) (Nm.Es hBs))
 have hrd: ∀ W':World,(∀ k,(FN D1 β1 ps.bl k\/k=Bs)->W'.heap[k]?=W.heap[k]?)->cd Bs x.1.2.1 W':=fun W' hs=>by
  have hc:W'.cell? ⟨Bs,0,none⟩=some ((β1 2).sl):=by
   rw [World.cell?_of_block (w:=W) (hs Bs (.inr rfl))]
   unfold World.cell?
   rw [hBh]
   simp [AA,SV.den]
  rcases Rn hrow with ⟨h1,a',c,h2⟩|⟨b,off,cap,h2,h3,h4⟩
  ·exact .inl ⟨h1,a',c,by rw [hc,h2]⟩
  ·exact .inr ⟨b,off,cap,by rw [hc,h2],fun j hj=>by rw [World.cell?_of_block (w:=W) (hs b (.inl (.inl h3)))];exact h4 j hj⟩
 have t2:a.tmps.getD 2 undef=.pointer (some ⟨(β2 2).AN,0,none⟩):=by rw [hg1.tmps 2 (.ptr 17 0) rfl,r1];simp only [SV.den]
 have t5:a.tmps.getD 5 undef=.pointer (some ⟨(β2 3).AN,0,none⟩):=by rw [hg1.tmps 5 (.ptr 18 0) rfl,r2];simp only [SV.den]
 have hsz:a.tmps.size=17:=hg1.size
 have hgo':Tryz.Ab.go ((bwd x.1.2.1).map Prod.snd) ((),(x.2.1,x.2.2.1,((),()),(-1,()),()))=some yq:=by rw [T1];exact hgo
 refine wpIn_wide.2 (wpIn_wide.1 (Kq (gf:=104) (lb:=#[.pointer (some ⟨Bs,0,none⟩)]) ?_ Qg (Tryz.Tx Bs x.1.2.1 hl) (fun _=>rfl)
  (lu w W (AK o β) D (fun k=>FN D1 β1 ps.bl k\/k=Bs) β2 ((),(x.2.1,x.2.2.1,((),()),(-1,()),()))) (fun _ _ _=>False) (fun pre W' ob ⟨y,h1,h2⟩ hlt=>⟨y,h1,OD.ZS y W' ob h2 hlt⟩) (fun _ _ _ _ h _=>h)
  (fun pre W' ⟨_,_,_,_,_,_,_,_,_,_,_,_,_,_,_,h9⟩=>hrd W' h9) (fun ob ob'=>⟨_,rfl,OD.first hq hgd b5 (fun _ h=>h) ob ob'⟩)
  (fun x' a'=>a'.defers=[]/\a'.tmps.size=17/\a'.tmps.getD 2 undef=.pointer (some ⟨(β2 2).AN,0,none⟩)/\a'.tmps.getD 5 undef=.pointer (some ⟨(β2 3).AN,0,none⟩)/\a'.tmps.getD 7 undef=.int .i64 x'.2) ?_ ?_ ?_ ?_))
 ·rw [show a.eval (.tmp 9)=a.tmps.getD 9 undef from rfl,hg1.tmps 9 (.fn 104 [.ptr 19 0]) rfl]
  simp only [SV.den,AA,ET (show Nat.ble 1000000 104=false from rfl),A6]
 ·intro l x' W' K hK
  exact VS hsz fun a' h1 h2 h3 h4=>hK a' ⟨h1,h2,by rw [h3 2 (by decide) (by decide) (by decide)];exact t2,by rw [h3 5 (by decide) (by decide) (by decide)];exact t5,h4⟩
 ·rintro pre x' rest a' W' hxs _ hI ⟨h1,h2,h3,h4,h5⟩
  exact Zn hkp hgo' hxs hI h1 h2 h3 h4 h5 _
 ·rintro W' ⟨y,h1,h2⟩ hK
  rw [hgo'] at h1
  cases h1
  simp only [after,Exit.inBlock]
  exact Zp hkp hres (fun i hi=>by
   match i,hi with
   | 0,_=>rw [r0];exact hβ1 0 (by omega)
   | 1,_=>rw [hU];exact hβ1 1 (by omega)) h2 hg1.defers hsz t2 t5 hK
 ·exact fun _ _ _ _ h=>h.elim
end Go.Proofs
