/-
 Functions of the seat, lifted: plan, model, contract, equations. Written by a program (Lift) that ran the layer's evaluation; Lean checks each line.
-/
import Derived.Test.YtpjlciengdhjoaaGreatDoorMu
set_option maxRecDepth 100000
set_option maxHeartbeats 4000000
namespace Go.Proofs
open Go Go.En Tryz
def Tryz.DB.p:Aj:=⟨[],0,⟨[.fd (.int .i64)],[]⟩,⟨[.fd (.int .i64)],[]⟩,true,[],[]⟩
noncomputable def Tryz.DB.E:Env En.Dop.D4:=AU Tryz.prog 22 Tryz.tb [] Tryz.DB.p
theorem Tryz.DB.ok:AH En.Dop.D4 Tryz.prog 22 Tryz.DB.p=true:=by kernel_rfl
noncomputable def Tryz.DB.c:BU En.Dop.D4:=⟨22,Tryz.DB.p.bn,Tryz.DB.p.sp,Tryz.DB.p.rs,Tryz.DB.p.flat,.opt (Tryz.DB.E.run 3000 Tryz.DB.p.sp)⟩
theorem Tryz.DB.holds:Tryz.DB.c.Holds Tryz.prog:=BP 3000 Tryz.AJ Am Tryz.DB.ok
def Tryz.CU.p:Aj:=⟨[],0,⟨[.fd (.int .i64)],[]⟩,⟨[.fd (.int .i64)],[]⟩,true,[],[]⟩
noncomputable def Tryz.CU.E:Env En.Dop.D4:=AU Tryz.prog 24 Tryz.tb [Tryz.DB.c] Tryz.CU.p
theorem Tryz.CU.ok:AH En.Dop.D4 Tryz.prog 24 Tryz.CU.p=true:=by kernel_rfl
noncomputable def Tryz.CU.c:BU En.Dop.D4:=⟨24,Tryz.CU.p.bn,Tryz.CU.p.sp,Tryz.CU.p.rs,Tryz.CU.p.flat,.opt (Tryz.CU.E.run 3000 Tryz.CU.p.sp)⟩
theorem Tryz.CU.holds:Tryz.CU.c.Holds Tryz.prog:=BP 3000 Tryz.AJ (AS Tryz.DB.holds Am) Tryz.CU.ok
abbrev Tryz.Bu.q3:Cut:=⟨[[0,0,0,0,0,1,0,1,1],[0,1,0,0,0,1,0,1,1],[0,1,0,0,1,0,1,1],[2,0,0,1,0,1,1],[1,0],[0,1,1,1]],[1,5,6],0,⟨[.fd (.int .i64),.fd (.int .i64),.fd (.int .i64)],[]⟩⟩
def Tryz.Bu.p:Aj:=⟨[(3,Tryz.Bu.q3)],0,⟨[.fd (.int .i64),.fd (.int .i64)],[]⟩,⟨[.fd (.int .i64)],[]⟩,true,[],[]⟩
noncomputable def Tryz.Bu.E:Env En.Dop.D4:=AU Tryz.prog 41 Tryz.tb [Tryz.CU.c] Tryz.Bu.p
theorem Tryz.Bu.ok:AH En.Dop.D4 Tryz.prog 41 Tryz.Bu.p=true:=by kernel_rfl
noncomputable def Tryz.Bu.c:BU En.Dop.D4:=⟨41,Tryz.Bu.p.bn,Tryz.Bu.p.sp,Tryz.Bu.p.rs,Tryz.Bu.p.flat,.opt (Tryz.Bu.E.run 3000 Tryz.Bu.p.sp)⟩
theorem Tryz.Bu.holds:Tryz.Bu.c.Holds Tryz.prog:=BP 3000 Tryz.AJ (AS Tryz.CU.holds Am) Tryz.Bu.ok
abbrev Tryz.Bk.q3:Cut:=⟨[[0,0,0,0,0,1,0,1,1],[0,1,0,0,0,1,0,1,1],[0,1,0,0,1,0,1,1],[2,0,0,1,0,1,1],[1,0],[0,1,1,1]],[0,3,4],0,⟨[.fd (.int .i64),.fd (.int .i64),.fd (.int .i64)],[]⟩⟩
def Tryz.Bk.p:Aj:=⟨[(3,Tryz.Bk.q3)],0,⟨[.fd (.int .i64)],[]⟩,⟨[.fd (.int .i64)],[]⟩,true,[],[]⟩
noncomputable def Tryz.Bk.E:Env En.Dop.D4:=AU Tryz.prog 23 Tryz.tb [] Tryz.Bk.p
theorem Tryz.Bk.ok:AH En.Dop.D4 Tryz.prog 23 Tryz.Bk.p=true:=by kernel_rfl
noncomputable def Tryz.Bk.c:BU En.Dop.D4:=⟨23,Tryz.Bk.p.bn,Tryz.Bk.p.sp,Tryz.Bk.p.rs,Tryz.Bk.p.flat,.opt (Tryz.Bk.E.run 3000 Tryz.Bk.p.sp)⟩
theorem Tryz.Bk.holds:Tryz.Bk.c.Holds Tryz.prog:=BP 3000 Tryz.AJ Am Tryz.Bk.ok
abbrev Tryz.Bl.q3:Cut:=⟨[[0,0,0,0,0,1,0,1,1],[0,1,0,0,0,1,0,1,1],[0,1,0,0,1,0,1,1],[2,0,0,1,0,1,1],[1,0],[0,1,1,1]],[0,1,2,7,8],0,⟨[.fd (.int .i64),.fd (.int .i64),.fd (.int .i64),.fd (.int .i64),.fd (.int .i64)],[]⟩⟩
def Tryz.Bl.p:Aj:=⟨[(3,Tryz.Bl.q3)],0,⟨[.fd (.int .i64),.fd (.int .i64),.fd (.int .i64)],[]⟩,⟨[.fd (.int .i64)],[]⟩,true,[],[]⟩
noncomputable def Tryz.Bl.E:Env En.Dop.D4:=AU Tryz.prog 25 Tryz.tb [Tryz.Bu.c,Tryz.Bk.c] Tryz.Bl.p
theorem Tryz.Bl.ok:AH En.Dop.D4 Tryz.prog 25 Tryz.Bl.p=true:=by kernel_rfl
noncomputable def Tryz.Bl.c:BU En.Dop.D4:=⟨25,Tryz.Bl.p.bn,Tryz.Bl.p.sp,Tryz.Bl.p.rs,Tryz.Bl.p.flat,.opt (Tryz.Bl.E.run 3000 Tryz.Bl.p.sp)⟩
theorem Tryz.Bl.holds:Tryz.Bl.c.Holds Tryz.prog:=BP 3000 Tryz.AJ (AS Tryz.Bu.holds (AS Tryz.Bk.holds Am)) Tryz.Bl.ok
def Tryz.D7.p:Aj:=⟨[],0,⟨[.fd (.int .i64),.fd (.int .i64)],[]⟩,⟨[.fd (.int .i64)],[]⟩,true,[],[]⟩
noncomputable def Tryz.D7.E:Env En.Dop.D4:=AU Tryz.prog 26 Tryz.tb [] Tryz.D7.p
theorem Tryz.D7.ok:AH En.Dop.D4 Tryz.prog 26 Tryz.D7.p=true:=by kernel_rfl
noncomputable def Tryz.D7.c:BU En.Dop.D4:=⟨26,Tryz.D7.p.bn,Tryz.D7.p.sp,Tryz.D7.p.rs,Tryz.D7.p.flat,.opt (Tryz.D7.E.run 3000 Tryz.D7.p.sp)⟩
theorem Tryz.D7.holds:Tryz.D7.c.Holds Tryz.prog:=BP 3000 Tryz.AJ Am Tryz.D7.ok
def Tryz.DD.p:Aj:=⟨[],0,⟨[.fd .bool],[]⟩,⟨[.fd (.int .i64)],[]⟩,true,[],[]⟩
noncomputable def Tryz.DD.E:Env En.Dop.D4:=AU Tryz.prog 27 Tryz.tb [] Tryz.DD.p
theorem Tryz.DD.ok:AH En.Dop.D4 Tryz.prog 27 Tryz.DD.p=true:=by kernel_rfl
noncomputable def Tryz.DD.c:BU En.Dop.D4:=⟨27,Tryz.DD.p.bn,Tryz.DD.p.sp,Tryz.DD.p.rs,Tryz.DD.p.flat,.opt (Tryz.DD.E.run 3000 Tryz.DD.p.sp)⟩
theorem Tryz.DD.holds:Tryz.DD.c.Holds Tryz.prog:=BP 3000 Tryz.AJ Am Tryz.DD.ok
abbrev Tryz.BV.pH:Cut:=⟨[[0,0,1,1,1,1,1,1,1],[0,1,1,1,1,1,1,1,1]],[11],0,⟨[.fd (.int .i64)],[]⟩⟩
def Tryz.BV.p:Aj:=⟨[(48,Tryz.BV.pH)],0,⟨[.fd (.int .i64),.fd (.int .i64),.fd (.int .i64)],[]⟩,⟨[.fd (.int .i64),.fd .bool],[]⟩,true,[(20,⟨[(0,true),(1,false),(2,true),(3,false),(4,true),(5,false),(6,true),(7,true),(8,false),(9,true),(10,true),(11,true)],[],[0,1,0,7,0,31,63,0,191,511,1023,2047],false⟩)],[]⟩
noncomputable def Tryz.BV.E:Env En.Dop.D4:=AU Tryz.prog 14 Tryz.tb [Tryz.DB.c,Tryz.CU.c,Tryz.Bk.c,Tryz.Bl.c,Tryz.D7.c,Tryz.DD.c] Tryz.BV.p
theorem Tryz.BV.ok:AH En.Dop.D4 Tryz.prog 14 Tryz.BV.p=true:=by kernel_rfl
noncomputable def Tryz.BV.c:BU En.Dop.D4:=⟨14,Tryz.BV.p.bn,Tryz.BV.p.sp,Tryz.BV.p.rs,Tryz.BV.p.flat,.opt (Tryz.BV.E.run 3000 Tryz.BV.p.sp)⟩
theorem Tryz.BV.holds:Tryz.BV.c.Holds Tryz.prog:=BP 3000 Tryz.AJ (AS Tryz.DB.holds (AS Tryz.CU.holds (AS Tryz.Bk.holds (AS Tryz.Bl.holds (AS Tryz.D7.holds (AS Tryz.DD.holds Am)))))) Tryz.BV.ok
end Go.Proofs
