/- What the boxes of some types hold: as one, with names of the parts. Written by a program. -/
import Derived.Test.YtkpggdcpaeanaaaGreatDoorMl
namespace Go.Proofs
open Go Go.En
abbrev CK : Type := En.Dop.Tre × Unit × List (Int) × List (En.Dop.Fun) × List (En.Dop.Glb) × Int × List (En.Dop.Nde) × List (List (List UInt8 × En.Dop.Plc)) × List (List UInt8 × En.Dop.Sgn) × List (List UInt8 × Int) × En.Dop.Fun × Int × List (List UInt8 × Int) × List (List UInt8 × Int) × Int × List (List (Int × Int)) × Int × Int × Int × Unit
@[reducible] def CK.t (k : CK) : En.Dop.Tre := k.1
@[reducible] def CK.num (k : CK) : List (Int) := k.2.2.1
@[reducible] def CK.funcs (k : CK) : List (En.Dop.Fun) := k.2.2.2.1
@[reducible] def CK.globals (k : CK) : List (En.Dop.Glb) := k.2.2.2.2.1
@[reducible] def CK.top (k : CK) : Int := k.2.2.2.2.2.1
@[reducible] def CK.nodes (k : CK) : List (En.Dop.Nde) := k.2.2.2.2.2.2.1
@[reducible] def CK.names (k : CK) : List (List (List UInt8 × En.Dop.Plc)) := k.2.2.2.2.2.2.2.1
@[reducible] def CK.sigs (k : CK) : List (List UInt8 × En.Dop.Sgn) := k.2.2.2.2.2.2.2.2.1
@[reducible] def CK.taken (k : CK) : List (List UInt8 × Int) := k.2.2.2.2.2.2.2.2.2.1
@[reducible] def CK.f (k : CK) : En.Dop.Fun := k.2.2.2.2.2.2.2.2.2.2.1
@[reducible] def CK.tells (k : CK) : Int := k.2.2.2.2.2.2.2.2.2.2.2.1
@[reducible] def CK.labels (k : CK) : List (List UInt8 × Int) := k.2.2.2.2.2.2.2.2.2.2.2.2.1
@[reducible] def CK.gotos (k : CK) : List (List UInt8 × Int) := k.2.2.2.2.2.2.2.2.2.2.2.2.2.1
@[reducible] def CK.loops (k : CK) : Int := k.2.2.2.2.2.2.2.2.2.2.2.2.2.2.1
@[reducible] def CK.sws (k : CK) : List (List (Int × Int)) := k.2.2.2.2.2.2.2.2.2.2.2.2.2.2.2.1
@[reducible] def CK.brk (k : CK) : Int := k.2.2.2.2.2.2.2.2.2.2.2.2.2.2.2.2.1
@[reducible] def CK.e (k : CK) : Int := k.2.2.2.2.2.2.2.2.2.2.2.2.2.2.2.2.2.1
@[reducible] def CK.s_e (k : CK) (v : Int) : CK := (k.1,k.2.1,k.2.2.1,k.2.2.2.1,k.2.2.2.2.1,k.2.2.2.2.2.1,k.2.2.2.2.2.2.1,k.2.2.2.2.2.2.2.1,k.2.2.2.2.2.2.2.2.1,k.2.2.2.2.2.2.2.2.2.1,k.2.2.2.2.2.2.2.2.2.2.1,k.2.2.2.2.2.2.2.2.2.2.2.1,k.2.2.2.2.2.2.2.2.2.2.2.2.1,k.2.2.2.2.2.2.2.2.2.2.2.2.2.1,k.2.2.2.2.2.2.2.2.2.2.2.2.2.2.1,k.2.2.2.2.2.2.2.2.2.2.2.2.2.2.2.1,k.2.2.2.2.2.2.2.2.2.2.2.2.2.2.2.2.1,v,k.2.2.2.2.2.2.2.2.2.2.2.2.2.2.2.2.2.2)
@[reducible] def CK.when (k : CK) : Int := k.2.2.2.2.2.2.2.2.2.2.2.2.2.2.2.2.2.2.1
@[reducible] def CK.s_when (k : CK) (v : Int) : CK := (k.1,k.2.1,k.2.2.1,k.2.2.2.1,k.2.2.2.2.1,k.2.2.2.2.2.1,k.2.2.2.2.2.2.1,k.2.2.2.2.2.2.2.1,k.2.2.2.2.2.2.2.2.1,k.2.2.2.2.2.2.2.2.2.1,k.2.2.2.2.2.2.2.2.2.2.1,k.2.2.2.2.2.2.2.2.2.2.2.1,k.2.2.2.2.2.2.2.2.2.2.2.2.1,k.2.2.2.2.2.2.2.2.2.2.2.2.2.1,k.2.2.2.2.2.2.2.2.2.2.2.2.2.2.1,k.2.2.2.2.2.2.2.2.2.2.2.2.2.2.2.1,k.2.2.2.2.2.2.2.2.2.2.2.2.2.2.2.2.1,k.2.2.2.2.2.2.2.2.2.2.2.2.2.2.2.2.2.1,v,k.2.2.2.2.2.2.2.2.2.2.2.2.2.2.2.2.2.2.2)
@[reducible] def CK.b0 : En.Box := ⟨0,135,[.st 7,.al 1 0,.own 0 3,.own 11 52,.own 12 32,.st 0,.own 5 56,.mr (.str) 9 true 129,.mp (.str) 15 true,.mp (.str) 0 false,.st 11,.st 0,.mp (.str) 0 false,.mp (.str) 0 false,.st 0,.mr (.int .i64) 0 false 217,.st 0,.fd (.int .i64),.st 0],false⟩
@[reducible] def CK.b1 : En.Box := ⟨1,135,[.st 7,.al 2 0,.own 0 3,.own 11 52,.own 12 32,.st 0,.own 5 56,.mr (.str) 9 true 129,.mp (.str) 15 true,.mp (.str) 0 false,.st 11,.st 0,.mp (.str) 0 false,.mp (.str) 0 false,.st 0,.mr (.int .i64) 0 false 217,.st 0,.fd (.int .i64),.st 0],false⟩
abbrev CT : Type := List (En.Dop.Typ) × List (List UInt8 × List (En.Dop.Fld)) × Unit
@[reducible] def CT.b0 : En.Box := ⟨0,168,[.own 6 93,.mp (.str) 17 false],false⟩
@[reducible] def CT.b1 : En.Box := ⟨1,168,[.own 6 93,.mp (.str) 17 false],false⟩
@[reducible] def CT.b2 : En.Box := ⟨2,168,[.own 6 93,.mp (.str) 17 false],false⟩
end Go.Proofs
/- Functions of the seat, lifted: plan, model, contract, equations. Written by a program (Lift) that ran the layer's evaluation; Lean checks each line. -/
set_option maxRecDepth 100000
set_option maxHeartbeats 4000000
namespace Go.Proofs.Tryz
open Go Go.En
def m163.p : Pln := ⟨[],1,⟨[.al 0 0,.fd (.int .i64)],[CT.b0]⟩,⟨[.st 6,.fd .bool],[CT.b0]⟩,false,[],[]⟩
theorem m163.ok : plnOk En.Dop.D4 prog 163 m163.p = true := by kernel_rfl
def m193.p : Pln := ⟨[],1,⟨[.al 0 0,.st 6],[CT.b0]⟩,⟨[.fd (.int .i64),.fd (.int .i64)],[CT.b0]⟩,false,[(1,⟨[(0,true),(1,true),(2,true),(3,false),(4,false),(5,false),(6,true)],[],[0,1,3,7,0,31,63],true⟩),(6,⟨[(0,true),(1,true),(2,true),(3,true),(4,false),(5,false),(6,false)],[7,8,9,10],[0,0,2,6,14,0,32,126,255,511,1023],false⟩)],[]⟩
theorem m193.ok : plnOk En.Dop.D4 prog 193 m193.p = true := by kernel_rfl
def m159.p : Pln := ⟨[],1,⟨[.al 0 0,.fd (.int .i64)],[CT.b0]⟩,⟨[.fd (.int .i64),.fd (.int .i64)],[CT.b0]⟩,false,[],[]⟩
theorem m159.ok : plnOk En.Dop.D4 prog 159 m159.p = true := by kernel_rfl
@[reducible] def m124.q10 : Cut := ⟨[[0,0,0,0,1,0,1,0,1,1,1,1,1,0,0,1,1],[0,1,0,0,1,0,1,0,1,1,1,1,1,0,0,1,1],[2,0,0,1,0,1,0,1,1,1,1,1,0,0,1,1],[1,1],[0,1,1,0,1,1,1,1,1,0,0,1,1],[1,0],[0,1,1,1]],[0,10,54,55,56],1,⟨[.al 0 0,.fd (.int .i64),.fd (.sl 16),.fd (.int .i64),.fd (.int .i64)],[CT.b0]⟩⟩
def m124.p : Pln := ⟨[(10,m124.q10)],1,⟨[.al 0 0,.fd (.int .i64)],[CT.b0]⟩,⟨[.fd (.int .i64),.fd .bool],[CT.b0]⟩,false,[(9,⟨[(0,true),(1,true),(2,true),(3,false),(4,true),(5,false),(6,false),(7,false),(8,true)],[],[0,1,3,7,0,16,63,127,0],false⟩)],[]⟩
theorem m124.ok : plnOk En.Dop.D4 prog 124 m124.p = true := by kernel_rfl
@[reducible] def g124.T : Type := (((Unit × Int × Unit) × (CT × Unit)) → Option ((Int × Bool × Unit) × (CT × Unit))) × Unit
noncomputable def g124.ct (r : g124.T) : List (Ctr En.Dop.D4) := [⟨124,m124.p.bn,m124.p.sp,m124.p.rs,m124.p.flat,.opt (r.1)⟩]
def m160.p : Pln := ⟨[],1,⟨[.al 0 0,.fd (.int .i64),.fd (.int .i64)],[CT.b0]⟩,⟨[.fd (.int .i64),.fd (.int .i64)],[CT.b0]⟩,false,[],[]⟩
theorem m160.ok : plnOk En.Dop.D4 prog 160 m160.p = true := by kernel_rfl
def m161.p : Pln := ⟨[],1,⟨[.al 0 0,.fd .str],[CT.b0]⟩,⟨[.fd (.int .i64),.fd (.int .i64)],[CT.b0]⟩,false,[],[]⟩
theorem m161.ok : plnOk En.Dop.D4 prog 161 m161.p = true := by kernel_rfl
def m128.p : Pln := ⟨[],1,⟨[.al 0 0,.fd (.int .i64)],[CT.b0]⟩,⟨[.fd .bool],[CT.b0]⟩,false,[],[]⟩
theorem m128.ok : plnOk En.Dop.D4 prog 128 m128.p = true := by kernel_rfl
@[reducible] def m248.q6 : Cut := ⟨[[0,0,0,0,1,0,1,1,1,1],[0,1,0,0,1,0,1,1,1,1],[2,0,0,1,0,1,1,1,1],[1,0],[0,1,1,1,1,1]],[0,2,11,35,36,37],1,⟨[.al 0 0,.fd .str,.fd (.int .i64),.fd (.sl 16),.fd (.int .i64),.fd (.int .i64)],[CT.b0]⟩⟩
def m248.p : Pln := ⟨[(6,m248.q6)],1,⟨[.al 0 0,.fd (.int .i64),.fd .str],[CT.b0]⟩,⟨[.fd (.int .i64),.fd (.int .i64),.fd .bool],[CT.b0]⟩,false,[(5,⟨[(0,true),(1,true),(2,true),(3,false),(4,true),(5,false),(6,false),(7,false),(8,true)],[],[0,1,3,7,0,16,63,127,0],false⟩),(9,⟨[(0,true),(1,true),(2,false),(3,true),(4,true),(5,true)],[],[0,0,2,1,15,31],false⟩)],[]⟩
theorem m248.ok : plnOk En.Dop.D4 prog 248 m248.p = true := by kernel_rfl
def m74.p : Pln := ⟨[],2,⟨[.al 0 0,.fd (.int .i64)],[CK.b0,CT.b1]⟩,⟨[.st 5],[CK.b0,CT.b1]⟩,false,[],[]⟩
theorem m74.ok : plnOk En.Dop.D4 prog 74 m74.p = true := by kernel_rfl
def m123.p : Pln := ⟨[],2,⟨[.al 0 0,.fd (.int .i64),.fd (.int .i64)],[CK.b0,CT.b1]⟩,⟨[.st 10],[CK.b0,CT.b1]⟩,false,[],[]⟩
theorem m123.ok : plnOk En.Dop.D4 prog 123 m123.p = true := by kernel_rfl
def m127.p : Pln := ⟨[],2,⟨[.al 0 0,.fd (.int .i64)],[CK.b0,CT.b1]⟩,⟨[.fd (.int .i64)],[CK.b0,CT.b1]⟩,false,[],[]⟩
theorem m127.ok : plnOk En.Dop.D4 prog 127 m127.p = true := by kernel_rfl
def m125.p : Pln := ⟨[],2,⟨[.al 0 0,.fd (.int .i64)],[CK.b0,CT.b1]⟩,⟨[.fd .bool],[CK.b0,CT.b1]⟩,false,[],[]⟩
theorem m125.ok : plnOk En.Dop.D4 prog 125 m125.p = true := by kernel_rfl
def m228.p : Pln := ⟨[],2,⟨[.al 0 0,.fd (.int .i64)],[CK.b0,CT.b1]⟩,⟨[.fd (.int .i64),.fd (.int .i64)],[CK.b0,CT.b1]⟩,false,[(2,⟨[(0,true),(1,true),(2,true),(3,false),(4,true),(5,false),(6,false),(7,true),(8,true),(9,true),(10,true),(11,true)],[2000000],[0,1,3,7,0,16,63,127,255,255,511,2047],false⟩)],[]⟩
theorem m228.ok : plnOk En.Dop.D4 prog 228 m228.p = true := by kernel_rfl
def m242.p : Pln := ⟨[],2,⟨[.al 0 0,.fd (.int .i64)],[CK.b0,CT.b1]⟩,⟨[.fd .bool],[CK.b0,CT.b1]⟩,false,[],[]⟩
theorem m242.ok : plnOk En.Dop.D4 prog 242 m242.p = true := by kernel_rfl
def m240.p : Pln := ⟨[],2,⟨[.al 0 0,.fd (.int .i64),.fd (.int .i64)],[CK.b0,CT.b1]⟩,⟨[.fd (.int .i64)],[CK.b0,CT.b1]⟩,false,[],[]⟩
theorem m240.ok : plnOk En.Dop.D4 prog 240 m240.p = true := by kernel_rfl
def m132.p : Pln := ⟨[],2,⟨[.al 0 0,.fd (.int .i64),.fd (.int .i64),.fd (.int .i64),.fd (.int .i64),.fd (.int .i64),.fd .str],[CK.b0,CT.b1]⟩,⟨[.fd (.int .i64)],[CK.b0,CT.b1]⟩,false,[],[]⟩
noncomputable def m132.E : Env En.Dop.D4 := envOf prog 132 tb [] m132.p
theorem m132.ok : plnOk En.Dop.D4 prog 132 m132.p = true := by kernel_rfl
noncomputable def m132.c : Ctr En.Dop.D4 := ⟨132,m132.p.bn,m132.p.sp,m132.p.rs,m132.p.flat,.opt (m132.E.run 3000 m132.p.sp)⟩
theorem m132.holds : m132.c.Holds prog := fun_ctr 3000 tbOk hct_nil m132.ok
def m126.p : Pln := ⟨[],0,⟨[.fd (.int .i64)],[]⟩,⟨[.fd (.int .i64)],[]⟩,true,[],[]⟩
theorem m126.ok : plnOk En.Dop.D4 prog 126 m126.p = true := by kernel_rfl
def m165.p : Pln := ⟨[],2,⟨[.al 0 0,.fd (.int .i64)],[CK.b0,CT.b1]⟩,⟨[.fd (.int .i64)],[CK.b0,CT.b1]⟩,false,[],[]⟩
theorem m165.ok : plnOk En.Dop.D4 prog 165 m165.p = true := by kernel_rfl
def m134.p : Pln := ⟨[],2,⟨[.al 0 0,.fd (.int .i64)],[CK.b0,CT.b1]⟩,⟨[.fd (.int .i64)],[CK.b0,CT.b1]⟩,false,[],[]⟩
theorem m134.ok : plnOk En.Dop.D4 prog 134 m134.p = true := by kernel_rfl
def m164.p : Pln := ⟨[],2,⟨[.al 0 0,.fd (.int .i64)],[CK.b0,CT.b1]⟩,⟨[.fd (.int .i64)],[CK.b0,CT.b1]⟩,false,[],[]⟩
theorem m164.ok : plnOk En.Dop.D4 prog 164 m164.p = true := by kernel_rfl
def m238.p : Pln := ⟨[],2,⟨[.al 0 0,.fd (.int .i64)],[CK.b0,CT.b1]⟩,⟨[.fd (.int .i64)],[CK.b0,CT.b1]⟩,false,[],[]⟩
theorem m238.ok : plnOk En.Dop.D4 prog 238 m238.p = true := by kernel_rfl
def m239.p : Pln := ⟨[],2,⟨[.al 0 0,.fd (.int .i64)],[CK.b0,CT.b1]⟩,⟨[.fd (.int .i64)],[CK.b0,CT.b1]⟩,false,[],[]⟩
theorem m239.ok : plnOk En.Dop.D4 prog 239 m239.p = true := by kernel_rfl
def m217.p : Pln := ⟨[],2,⟨[.al 0 0,.fd (.int .i64),.fd (.int .i64)],[CK.b0,CT.b1]⟩,⟨[.st 10],[CK.b0,CT.b1]⟩,false,[],[]⟩
theorem m217.ok : plnOk En.Dop.D4 prog 217 m217.p = true := by kernel_rfl
def m133.p : Pln := ⟨[],2,⟨[.al 0 0,.st 9],[CK.b0,CT.b1]⟩,⟨[.fd (.int .i64)],[CK.b0,CT.b1]⟩,false,[],[]⟩
theorem m133.ok : plnOk En.Dop.D4 prog 133 m133.p = true := by kernel_rfl
def m229.p : Pln := ⟨[],2,⟨[.al 0 0,.fd (.int .i64),.fd (.int .i64)],[CK.b0,CT.b1]⟩,⟨[.fd (.int .i64)],[CK.b0,CT.b1]⟩,false,[],[]⟩
theorem m229.ok : plnOk En.Dop.D4 prog 229 m229.p = true := by kernel_rfl
def m230.p : Pln := ⟨[],2,⟨[.al 0 0,.fd (.int .i64),.fd (.int .i64)],[CK.b0,CT.b1]⟩,⟨[.fd (.int .i64)],[CK.b0,CT.b1]⟩,false,[],[]⟩
theorem m230.ok : plnOk En.Dop.D4 prog 230 m230.p = true := by kernel_rfl
def m131.p : Pln := ⟨[],2,⟨[.al 0 0,.fd (.int .i64),.fd (.int .i64),.fd (.int .i64),.fd (.int .i64),.fd (.int .i64),.fd (.int .i64),.fd .str],[CK.b0,CT.b1]⟩,⟨[.fd (.int .i64)],[CK.b0,CT.b1]⟩,false,[],[]⟩
theorem m131.ok : plnOk En.Dop.D4 prog 131 m131.p = true := by kernel_rfl
@[reducible] def m195.q7 : Cut := ⟨[[0,0,0,1,1,1,1],[0,1,0,1,1,1,1],[0,1,1,1,1,1]],[0,2,3,4,6,11,12,13],3,⟨[.al 0 0,.fd (.int .i64),.fd (.int .i64),.fd .bool,.al 2 0,.fd (.int .i64),.fd (.int .i64),.fd .bool],[CK.b0,CT.b1,⟨2,174,[.st 10],false⟩]⟩⟩
@[reducible] def m195.q11 : Cut := ⟨[[0,0,0,1,1,1,1,1,1],[0,1,0,1,1,1,1,1,1],[0,1,1,1,1,1,1,1]],[0,3,6,11,12,13],3,⟨[.al 0 0,.fd (.int .i64),.al 2 0,.fd (.int .i64),.fd (.int .i64),.fd .bool],[CK.b0,CT.b1,⟨2,174,[.st 10],false⟩]⟩⟩
def m195.p : Pln := ⟨[(7,m195.q7),(11,m195.q11)],2,⟨[.al 0 0,.st 10,.fd (.int .i64),.fd (.int .i64),.fd .bool],[CK.b0,CT.b1]⟩,⟨[.fd (.int .i64)],[CK.b0,CT.b1]⟩,false,[(10,⟨[(0,true),(1,true),(2,true),(3,false),(4,true),(5,false),(6,false),(7,true),(8,true),(9,true),(10,true),(11,false),(12,true),(13,false),(14,true),(15,true)],[2000000],[0,1,3,7,0,16,63,127,255,511,1023,2047,255,8191,16383,32767],false⟩)],[]⟩
theorem m195.ok : plnOk En.Dop.D4 prog 195 m195.p = true := by kernel_rfl
def m243.p : Pln := ⟨[],2,⟨[.al 0 0,.fd (.int .i64),.fd (.int .i64),.fd (.int .i64)],[CK.b0,CT.b1]⟩,⟨[.fd (.int .i64)],[CK.b0,CT.b1]⟩,false,[],[]⟩
theorem m243.ok : plnOk En.Dop.D4 prog 243 m243.p = true := by kernel_rfl
def m244.p : Pln := ⟨[],2,⟨[.al 0 0,.fd (.int .i64),.fd (.int .i64)],[CK.b0,CT.b1]⟩,⟨[.fd (.int .i64)],[CK.b0,CT.b1]⟩,false,[],[]⟩
theorem m244.ok : plnOk En.Dop.D4 prog 244 m244.p = true := by kernel_rfl
@[reducible] def m121.q2 : Cut := ⟨[[0,0,0,0,0,1,0,1],[0,1,0,0,0,1,0,1],[0,1,0,0,1,0,1],[2,0,0,1,0,1],[1,0],[0,1,1]],[0,1,2,7],2,⟨[.al 0 0,.fd (.int .i64),.fd (.int .i64),.fd (.int .i64)],[CK.b0,CT.b1]⟩⟩
@[reducible] def m121.q13 : Cut := ⟨[[0,0,0,1,1,1,0,0,1,0,0,1,0,1],[0,1,0,1,1,1,0,0,1,0,0,1,0,1],[0,1,1,1,1,0,0,1,0,0,1,0,1],[1,1],[0,1,1,0,0,1,0,1],[2,0,0,1,0,1],[1,0],[0,1,1]],[0,1,2,7,9,10],2,⟨[.al 0 0,.fd (.int .i64),.fd (.int .i64),.fd (.int .i64),.fd (.int .i64),.fd (.int .i64)],[CK.b0,CT.b1]⟩⟩
def m121.p : Pln := ⟨[(2,m121.q2),(13,m121.q13)],2,⟨[.al 0 0,.fd (.int .i64),.fd (.int .i64)],[CK.b0,CT.b1]⟩,⟨[.fd (.int .i64)],[CK.b0,CT.b1]⟩,false,[(8,⟨[(0,true),(1,true),(2,true),(3,false),(4,true),(5,true),(6,true),(7,false),(8,true),(9,false),(10,false),(11,false),(12,false),(13,true),(14,true),(15,true),(16,true),(17,true)],[2000000],[0,1,3,7,0,16,48,112,0,256,1008,2032,4095,8191,16383,16383,32767,131071],false⟩),(10,⟨[(0,true),(1,true),(2,true),(3,false),(4,true),(5,true),(6,true),(7,false),(8,true),(9,false),(10,false),(11,false),(12,true),(13,false),(14,false),(15,true),(16,true),(17,true),(18,true),(19,true)],[2000000],[0,1,3,7,0,16,48,112,0,256,1008,2032,0,4096,16383,32767,65535,65535,131071,524287],false⟩),(12,⟨[(0,true),(1,true),(2,true),(3,false),(4,true),(5,false),(6,false),(7,true),(8,true),(9,true),(10,true),(11,true)],[2000000],[0,1,3,7,0,16,63,127,255,255,511,2047],false⟩)],[]⟩
theorem m121.ok : plnOk En.Dop.D4 prog 121 m121.p = true := by kernel_rfl
def m225.p : Pln := ⟨[],2,⟨[.al 0 0,.st 10,.fd (.int .i64)],[CK.b0,CT.b1]⟩,⟨[.st 10],[CK.b0,CT.b1]⟩,false,[],[]⟩
theorem m225.ok : plnOk En.Dop.D4 prog 225 m225.p = true := by kernel_rfl
@[reducible] def m224.q11 : Cut := ⟨[[0,0,1,1,1,1],[0,1,1,1,1,1]],[0,6,7,8,10,11],6,⟨[.al 0 0,.al 2 0,.al 3 0,.al 4 0,.al 5 0,.fd (.int .i64)],[CK.b0,CT.b1,⟨2,174,[.st 10],false⟩,⟨3,174,[.st 10],false⟩,⟨4,174,[.st 10],false⟩,⟨5,174,[.st 10],false⟩]⟩⟩
def m224.p : Pln := ⟨[(11,m224.q11)],2,⟨[.al 0 0,.st 10,.st 10,.st 10,.fd (.int .i64)],[CK.b0,CT.b1]⟩,⟨[.st 10],[CK.b0,CT.b1]⟩,false,[],[]⟩
theorem m224.ok : plnOk En.Dop.D4 prog 224 m224.p = true := by kernel_rfl
def m246.p : Pln := ⟨[],2,⟨[.al 0 0,.fd (.int .i64),.fd (.int .i64)],[CK.b0,CT.b1]⟩,⟨[.fd (.int .i64)],[CK.b0,CT.b1]⟩,false,[],[]⟩
theorem m246.ok : plnOk En.Dop.D4 prog 246 m246.p = true := by kernel_rfl
def m196.p : Pln := ⟨[],2,⟨[.al 0 0,.st 10,.fd (.int .i64)],[CK.b0,CT.b1]⟩,⟨[.fd (.int .i64)],[CK.b0,CT.b1]⟩,false,[],[]⟩
theorem m196.ok : plnOk En.Dop.D4 prog 196 m196.p = true := by kernel_rfl
end Go.Proofs.Tryz
