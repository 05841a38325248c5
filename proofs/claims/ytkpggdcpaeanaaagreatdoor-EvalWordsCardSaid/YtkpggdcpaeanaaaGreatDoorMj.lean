/- Functions of the seat, lifted: plan, model, contract, equations. Written by a program (Lift) that ran the layer's evaluation; Lean checks each line. -/
import Derived.Test.YtkpggdcpaeanaaaGreatDoorMi
import Derived.Test.YtkpggdcpaeanaaaGreatDoorLb
set_option maxRecDepth 100000
set_option maxHeartbeats 4000000
namespace Go.Proofs
open Go Go.En
open Tryz
abbrev bxA : Box := ⟨0,91,[.fd (.sl 4),.st 0,.own 5 56,.own 6 93,.st 0,.st 0,.fd (.int .i64),.st 0],false⟩
abbrev bxB : Box := ⟨0,91,[.fd (.sl 4),.fd (.int .i64),.own 5 56,.own 6 93,.fd (.int .i64),.fd (.int .i64),.fd (.int .i64),.fd (.int .i64)],false⟩
def Tryz.m89.p : Pln := ⟨[],1,⟨[.al 0 0],[bxA]⟩,⟨[.fd (.int .i64)],[bxB]⟩,false,[(3,⟨[(0,true),(1,true),(2,true),(3,false),(4,true),(5,true),(6,true),(7,false),(8,false),(9,true),(10,false),(11,false),(12,false)],[13],[0,1,3,7,0,16,48,112,240,496,1023,2047,0,8191],false⟩)],[]⟩
noncomputable def Tryz.m89.E : Env En.Dop.D4 := envOf Tryz.prog 89 Tryz.tb [] Tryz.m89.p
theorem Tryz.m89.ok : plnOk En.Dop.D4 Tryz.prog 89 Tryz.m89.p = true := by kernel_rfl
noncomputable def Tryz.m89.c : Ctr En.Dop.D4 := ⟨89,Tryz.m89.p.bn,Tryz.m89.p.sp,Tryz.m89.p.rs,Tryz.m89.p.flat,.opt (Tryz.m89.E.run 3000 Tryz.m89.p.sp)⟩
theorem Tryz.m89.holds : Tryz.m89.c.Holds Tryz.prog := fun_ctr 3000 Tryz.tbOk hct_nil Tryz.m89.ok
def Tryz.m45.p : Pln := ⟨[],1,⟨[.al 0 0],[bxA]⟩,⟨[.st 4],[bxB]⟩,false,[(1,⟨[(0,true),(1,true),(2,true),(3,false),(4,true),(5,true),(6,true),(7,true),(8,true),(9,false),(10,true),(11,true),(12,true),(13,false),(14,false),(15,true),(16,true)],[],[0,1,3,7,15,31,63,127,255,511,63,1087,3135,7231,15423,32767,65535],false⟩),(3,⟨[(0,true),(1,true),(2,true),(3,false),(4,true),(5,true),(6,true),(7,false),(8,false),(9,false)],[10],[0,1,3,7,0,16,48,112,255,511,1023],false⟩)],[]⟩
noncomputable def Tryz.m45.E : Env En.Dop.D4 := envOf Tryz.prog 45 Tryz.tb [Tryz.m89.c] Tryz.m45.p
theorem Tryz.m45.ok : plnOk En.Dop.D4 Tryz.prog 45 Tryz.m45.p = true := by kernel_rfl
noncomputable def Tryz.m45.c : Ctr En.Dop.D4 := ⟨45,Tryz.m45.p.bn,Tryz.m45.p.sp,Tryz.m45.p.rs,Tryz.m45.p.flat,.opt (Tryz.m45.E.run 3000 Tryz.m45.p.sp)⟩
theorem Tryz.m45.holds : Tryz.m45.c.Holds Tryz.prog := fun_ctr 3000 Tryz.tbOk (hct_cons Tryz.m89.holds hct_nil) Tryz.m45.ok
def Tryz.m91.p : Pln := ⟨[],1,⟨[.al 0 0,.fd .str],[bxA]⟩,⟨[.fd .bool],[bxB]⟩,false,[],[]⟩
theorem Tryz.m91.ok : plnOk En.Dop.D4 Tryz.prog 91 Tryz.m91.p = true := by kernel_rfl
def Tryz.m94.p : Pln := ⟨[],1,⟨[.al 0 0,.fd .str],[bxA]⟩,⟨[.fd .bool],[bxB]⟩,false,[],[]⟩
theorem Tryz.m94.ok : plnOk En.Dop.D4 Tryz.prog 94 Tryz.m94.p = true := by kernel_rfl
def Tryz.m142.p : Pln := ⟨[],1,⟨[.al 0 0,.fd (.int .i64)],[bxA]⟩,⟨[],[bxB]⟩,false,[],[]⟩
noncomputable def Tryz.m142.E : Env En.Dop.D4 := envOf Tryz.prog 142 Tryz.tb [Tryz.m45.c] Tryz.m142.p
theorem Tryz.m142.ok : plnOk En.Dop.D4 Tryz.prog 142 Tryz.m142.p = true := by kernel_rfl
noncomputable def Tryz.m142.c : Ctr En.Dop.D4 := ⟨142,Tryz.m142.p.bn,Tryz.m142.p.sp,Tryz.m142.p.rs,Tryz.m142.p.flat,.opt (Tryz.m142.E.run 3000 Tryz.m142.p.sp)⟩
theorem Tryz.m142.holds : Tryz.m142.c.Holds Tryz.prog := fun_ctr 3000 Tryz.tbOk (hct_cons Tryz.m45.holds hct_nil) Tryz.m142.ok
noncomputable def Tryz.m142 (e : Int) (c0 : List Dop.Tok) (c1 : Int) (c2 : List Dop.Nde) (c3 : List Dop.Typ) (c4 c5 c6 c7 : Int) : Option (Unit × ((List (Dop.Tok) × Int × List (Dop.Nde) × List (Dop.Typ) × Int × Int × Int × Int × Unit) × Unit)) := Tryz.m142.E.run 3000 Tryz.m142.p.sp (((),e,()),((c0,c1,c2,c3,c4,c5,c6,c7,()),()))
def Tryz.m92.p : Pln := ⟨[],1,⟨[.al 0 0,.fd .str],[bxA]⟩,⟨[],[bxB]⟩,false,[],[]⟩
theorem Tryz.m92.ok : plnOk En.Dop.D4 Tryz.prog 92 Tryz.m92.p = true := by kernel_rfl
def Tryz.m93.p : Pln := ⟨[],1,⟨[.al 0 0,.fd (.int .i64)],[bxA]⟩,⟨[.st 4],[bxB]⟩,false,[],[]⟩
theorem Tryz.m93.ok : plnOk En.Dop.D4 Tryz.prog 93 Tryz.m93.p = true := by kernel_rfl
def Tryz.m90.p : Pln := ⟨[],0,⟨[.fd (.int .i64),.fd (.int .i64)],[]⟩,⟨[.st 5],[]⟩,true,[],[]⟩
noncomputable def Tryz.m90.E : Env En.Dop.D4 := envOf Tryz.prog 90 Tryz.tb [] Tryz.m90.p
theorem Tryz.m90.ok : plnOk En.Dop.D4 Tryz.prog 90 Tryz.m90.p = true := by kernel_rfl
noncomputable def Tryz.m90.c : Ctr En.Dop.D4 := ⟨90,Tryz.m90.p.bn,Tryz.m90.p.sp,Tryz.m90.p.rs,Tryz.m90.p.flat,.opt (Tryz.m90.E.run 3000 Tryz.m90.p.sp)⟩
theorem Tryz.m90.holds : Tryz.m90.c.Holds Tryz.prog := fun_ctr 3000 Tryz.tbOk hct_nil Tryz.m90.ok
@[reducible] def Tryz.m179.q2 : Cut := ⟨[[0,0,0,0,1,0,1],[0,1,0,0,1,0,1],[2,0,0,1,0,1],[1,0],[0,1,1]],[0,3,7,8],1,⟨[.fd (.sl 6),.al 0 0,.fd (.int .i64),.fd (.int .i64)],[⟨0,93,[.st 6],false⟩]⟩⟩
def Tryz.m179.p : Pln := ⟨[(2,Tryz.m179.q2)],0,⟨[.fd (.sl 6),.st 6],[]⟩,⟨[.fd (.int .i64)],[]⟩,true,[(4,⟨[(0,false),(1,true),(2,true),(3,false),(4,false),(5,true)],[],[0,0,0,6,14,31],false⟩)],[]⟩
theorem Tryz.m179.ok : plnOk En.Dop.D4 Tryz.prog 179 Tryz.m179.p = true := by kernel_rfl
def Tryz.m144.p : Pln := ⟨[],1,⟨[.al 0 0,.st 6],[bxA]⟩,⟨[.fd (.int .i64)],[bxB]⟩,false,[(1,⟨[(0,true),(1,true),(2,true),(3,true),(4,false),(5,false),(6,false),(7,true)],[],[0,1,3,7,15,0,63,127],true⟩),(7,⟨[(0,true),(1,true),(2,true),(3,true),(4,true),(5,false),(6,false),(7,false)],[8,9,10,11,12],[0,0,2,6,14,30,0,64,254,511,1023,2047,4095],false⟩)],[]⟩
theorem Tryz.m144.ok : plnOk En.Dop.D4 Tryz.prog 144 Tryz.m144.p = true := by kernel_rfl
@[reducible] def Tryz.m143.q11 : Cut := ⟨[[0,0,0,0,0,0,1,1,1],[0,1,0,0,0,0,1,1,1],[0,1,0,0,0,1,1,1],[2,0,0,0,1,1,1],[1,1],[0,1,1,1,1]],[0,3],1,⟨[.al 0 0,.fd (.int .i64)],[bxB]⟩⟩
def Tryz.m143.p : Pln := ⟨[(11,Tryz.m143.q11)],1,⟨[.al 0 0],[bxA]⟩,⟨[.fd (.int .i64)],[bxB]⟩,false,[],[]⟩
theorem Tryz.m143.ok : plnOk En.Dop.D4 Tryz.prog 143 Tryz.m143.p = true := by kernel_rfl
def Tryz.m95.p : Pln := ⟨[],1,⟨[.al 0 0],[bxA]⟩,⟨[.st 5],[bxB]⟩,false,[],[]⟩
theorem Tryz.m95.ok : plnOk En.Dop.D4 Tryz.prog 95 Tryz.m95.p = true := by kernel_rfl
def Tryz.m96.p : Pln := ⟨[],1,⟨[.al 0 0,.fd (.int .i64)],[bxA]⟩,⟨[.fd (.int .i64)],[bxB]⟩,false,[],[]⟩
theorem Tryz.m96.ok : plnOk En.Dop.D4 Tryz.prog 96 Tryz.m96.p = true := by kernel_rfl
def Tryz.m97.p : Pln := ⟨[],1,⟨[.al 0 0,.st 5],[bxA]⟩,⟨[.fd (.int .i64)],[bxB]⟩,false,[(5,⟨[(0,true),(1,true),(2,true),(3,true),(4,true),(5,false),(6,false),(7,false)],[8,9,10,11,12],[0,0,2,6,14,30,0,64,254,511,1023,2047,4095],false⟩)],[]⟩
noncomputable def Tryz.m97.E : Env En.Dop.D4 := envOf Tryz.prog 97 Tryz.tb [Tryz.m142.c] Tryz.m97.p
theorem Tryz.m97.ok : plnOk En.Dop.D4 Tryz.prog 97 Tryz.m97.p = true := by kernel_rfl
noncomputable def Tryz.m97.c : Ctr En.Dop.D4 := ⟨97,Tryz.m97.p.bn,Tryz.m97.p.sp,Tryz.m97.p.rs,Tryz.m97.p.flat,.opt (Tryz.m97.E.run 3000 Tryz.m97.p.sp)⟩
theorem Tryz.m97.holds : Tryz.m97.c.Holds Tryz.prog := fun_ctr 3000 Tryz.tbOk (hct_cons Tryz.m142.holds hct_nil) Tryz.m97.ok
def Tryz.m100.p : Pln := ⟨[],1,⟨[.al 0 0,.fd (.int .i64)],[bxA]⟩,⟨[.fd (.int .i64)],[bxB]⟩,false,[],[]⟩
noncomputable def Tryz.m100.E : Env En.Dop.D4 := envOf Tryz.prog 100 Tryz.tb [] Tryz.m100.p
theorem Tryz.m100.ok : plnOk En.Dop.D4 Tryz.prog 100 Tryz.m100.p = true := by kernel_rfl
noncomputable def Tryz.m100.c : Ctr En.Dop.D4 := ⟨100,Tryz.m100.p.bn,Tryz.m100.p.sp,Tryz.m100.p.rs,Tryz.m100.p.flat,.opt (Tryz.m100.E.run 3000 Tryz.m100.p.sp)⟩
theorem Tryz.m100.holds : Tryz.m100.c.Holds Tryz.prog := fun_ctr 3000 Tryz.tbOk hct_nil Tryz.m100.ok
def Tryz.m204.p : Pln := ⟨[],1,⟨[.al 0 0],[bxA]⟩,⟨[.fd .bool],[bxB]⟩,false,[],[]⟩
theorem Tryz.m204.ok : plnOk En.Dop.D4 Tryz.prog 204 Tryz.m204.p = true := by kernel_rfl
def Tryz.m120.p : Pln := ⟨[],0,⟨[.st 7,.fd (.int .i64)],[]⟩,⟨[.st 5],[]⟩,true,[],[]⟩
theorem Tryz.m120.ok : plnOk En.Dop.D4 Tryz.prog 120 Tryz.m120.p = true := by kernel_rfl
@[reducible] def Tryz.m73.q3 : Cut := ⟨[[0,0,0,0,1,0,1,1],[0,1,0,0,1,0,1,1],[2,0,0,1,0,1,1],[1,0],[0,1,1,1]],[1,2,5,9,10],1,⟨[.fd (.int .i64),.al 0 0,.own 0 3,.fd (.int .i64),.fd (.int .i64)],[⟨0,41,[.st 7],false⟩]⟩⟩
def Tryz.m73.p : Pln := ⟨[(3,Tryz.m73.q3)],0,⟨[.st 7,.fd (.int .i64)],[]⟩,⟨[.own 0 3],[]⟩,true,[],[]⟩
theorem Tryz.m73.ok : plnOk En.Dop.D4 Tryz.prog 73 Tryz.m73.p = true := by kernel_rfl
def Tryz.m262.p : Pln := ⟨[],0,⟨[],[]⟩,⟨[.own 1 9],[]⟩,true,[],[]⟩
theorem Tryz.m262.ok : plnOk En.Dop.D4 Tryz.prog 262 Tryz.m262.p = true := by kernel_rfl
@[reducible] def Tryz.m43.q2 : Cut := ⟨[[0,0,0,0,0,0,1,1,0,1],[0,1,0,0,0,0,1,1,0,1],[0,1,0,0,0,1,1,0,1],[2,0,0,0,1,1,0,1],[1,0],[0,1,1,1,0,1],[3,0,1]],[0,4],0,⟨[.fd .str,.fd (.int .i64)],[]⟩⟩
def Tryz.m43.p : Pln := ⟨[(2,Tryz.m43.q2)],0,⟨[.fd .str],[]⟩,⟨[.fd (.int .i64),.fd .bool],[]⟩,true,[],[]⟩
theorem Tryz.m43.ok : plnOk En.Dop.D4 Tryz.prog 43 Tryz.m43.p = true := by kernel_rfl
def Tryz.m82.p : Pln := ⟨[],0,⟨[.fd (.int .u8)],[]⟩,⟨[.fd .bool],[]⟩,true,[],[]⟩
theorem Tryz.m82.ok : plnOk En.Dop.D4 Tryz.prog 82 Tryz.m82.p = true := by kernel_rfl
def Tryz.m85.p : Pln := ⟨[],0,⟨[.fd (.int .u8)],[]⟩,⟨[.fd .bool],[]⟩,true,[],[]⟩
theorem Tryz.m85.ok : plnOk En.Dop.D4 Tryz.prog 85 Tryz.m85.p = true := by kernel_rfl
@[reducible] def Tryz.m83.q2 : Cut := ⟨[[0,0,0,0,0,0,1,1],[0,1,0,0,0,0,1,1],[0,1,0,0,0,1,1],[2,0,0,0,1,1],[1,0],[0,1,1,1]],[0,3],0,⟨[.fd .str,.fd (.int .i64)],[]⟩⟩
def Tryz.m83.p : Pln := ⟨[(2,Tryz.m83.q2)],0,⟨[.fd .str],[]⟩,⟨[.fd (.int .i64)],[]⟩,true,[],[]⟩
theorem Tryz.m83.ok : plnOk En.Dop.D4 Tryz.prog 83 Tryz.m83.p = true := by kernel_rfl
def Tryz.m84.p : Pln := ⟨[],0,⟨[.fd .str],[]⟩,⟨[.fd .bool],[]⟩,true,[],[]⟩
theorem Tryz.m84.ok : plnOk En.Dop.D4 Tryz.prog 84 Tryz.m84.p = true := by kernel_rfl
def Tryz.m81.p : Pln := ⟨[],1,⟨[.fd (.int .i64),.fd (.int .i64),.fd (.int .i64),.al 0 0],[⟨0,9,[.st 1],false⟩]⟩,⟨[.st 4,.fd (.int .i64)],[⟨0,9,[.fd .str],false⟩]⟩,true,[],[]⟩
theorem Tryz.m81.ok : plnOk En.Dop.D4 Tryz.prog 81 Tryz.m81.p = true := by kernel_rfl
@[reducible] def Tryz.m86.q9 : Cut := ⟨[[0,0,0,0,1,0,1,1,1,1,1],[0,1,0,0,1,0,1,1,1,1,1],[2,0,0,1,0,1,1,1,1,1],[1,0],[0,1,1,1,1,1,1]],[0,5,6,34,35],0,⟨[.fd .str,.fd (.int .i64),.fd (.int .i64),.fd (.int .i64),.fd (.int .i64)],[]⟩⟩
def Tryz.m86.p : Pln := ⟨[(9,Tryz.m86.q9)],0,⟨[.fd .str],[]⟩,⟨[.fd (.int .i64),.fd .bool],[]⟩,true,[(6,⟨[(0,true),(2,true)],[1,3],[0,1,0,7],false⟩)],[]⟩
theorem Tryz.m86.ok : plnOk En.Dop.D4 Tryz.prog 86 Tryz.m86.p = true := by kernel_rfl
def Tryz.m87.p : Pln := ⟨[],0,⟨[.fd .str],[]⟩,⟨[.fd (.int .i64),.fd (.int .i64)],[]⟩,true,[],[]⟩
theorem Tryz.m87.ok : plnOk En.Dop.D4 Tryz.prog 87 Tryz.m87.p = true := by kernel_rfl
def Tryz.m141.p : Pln := ⟨[],0,⟨[],[]⟩,⟨[.own 1 9],[]⟩,true,[],[]⟩
theorem Tryz.m141.ok : plnOk En.Dop.D4 Tryz.prog 141 Tryz.m141.p = true := by kernel_rfl
@[reducible] def Tryz.m88.q2 : Cut := ⟨[[0,0,0,0,1,0,1],[0,1,0,0,1,0,1],[2,0,0,1,0,1],[1,0],[0,1,1]],[0,5,6,7],0,⟨[.fd .str,.own 1 9,.fd (.int .i64),.fd (.int .i64)],[]⟩⟩
def Tryz.m88.p : Pln := ⟨[(2,Tryz.m88.q2)],0,⟨[.fd .str],[]⟩,⟨[.fd .str],[]⟩,true,[],[]⟩
theorem Tryz.m88.ok : plnOk En.Dop.D4 Tryz.prog 88 Tryz.m88.p = true := by kernel_rfl
def Tryz.m44.p : Pln := ⟨[],0,⟨[.fd .str],[]⟩,⟨[.st 4,.fd (.int .i64)],[]⟩,true,[],[]⟩
theorem Tryz.m44.ok : plnOk En.Dop.D4 Tryz.prog 44 Tryz.m44.p = true := by kernel_rfl
@[reducible] def Tryz.m19.q5 : Cut := ⟨[[0,0,0,0,0,1,1,1,1],[0,1,0,0,0,1,1,1,1],[1,1],[2,0,0,1,1,1,1],[1,0]],[0,5,6],0,⟨[.fd .str,.own 4 38,.fd (.int .i64)],[]⟩⟩
def Tryz.m19.p : Pln := ⟨[(5,Tryz.m19.q5)],0,⟨[.fd .str],[]⟩,⟨[.own 4 38,.fd (.int .i64),.fd (.int .i64)],[]⟩,true,[],[]⟩
theorem Tryz.m19.ok : plnOk En.Dop.D4 Tryz.prog 19 Tryz.m19.p = true := by kernel_rfl
end Go.Proofs
/- Functions of the seat, lifted: plan, model, contract, equations. Written by a program (Lift) that ran the layer's evaluation; Lean checks each line. -/
set_option maxRecDepth 100000
set_option maxHeartbeats 4000000
namespace Go.Proofs
open Go Go.En
open Tryz
def Tryz.m89q.p : Pln := ⟨[],1,⟨[.al 0 0],[⟨0,91,[.fd (.sl 4),.st 0,.hd,.hd,.st 0,.st 0,.fd (.int .i64),.st 0],false⟩]⟩,⟨[.fd (.int .i64)],[⟨0,91,[.fd (.sl 4),.fd (.int .i64),.hd,.hd,.fd (.int .i64),.fd (.int .i64),.fd (.int .i64),.fd (.int .i64)],false⟩]⟩,false,[(3,⟨[(0,true),(1,true),(2,true),(3,false),(4,true),(5,true),(6,true),(7,false),(8,false),(9,true),(10,false),(11,false),(12,false)],[13],[0,1,3,7,0,16,48,112,240,496,1023,2047,0,8191],false⟩)],[]⟩
theorem Tryz.m89q.ok : plnOk En.Dop.D4 Tryz.prog 89 Tryz.m89q.p = true := by kernel_rfl
def Tryz.m45q.p : Pln := ⟨[],1,⟨[.al 0 0],[⟨0,91,[.fd (.sl 4),.st 0,.hd,.hd,.st 0,.st 0,.fd (.int .i64),.st 0],false⟩]⟩,⟨[.st 4],[⟨0,91,[.fd (.sl 4),.fd (.int .i64),.hd,.hd,.fd (.int .i64),.fd (.int .i64),.fd (.int .i64),.fd (.int .i64)],false⟩]⟩,false,[(1,⟨[(0,true),(1,true),(2,true),(3,false),(4,true),(5,true),(6,true),(7,true),(8,true),(9,false),(10,true),(11,true),(12,true),(13,false),(14,false),(15,true),(16,true)],[],[0,1,3,7,15,31,63,127,255,511,63,1087,3135,7231,15423,32767,65535],false⟩),(3,⟨[(0,true),(1,true),(2,true),(3,false),(4,true),(5,true),(6,true),(7,false),(8,false),(9,false)],[10],[0,1,3,7,0,16,48,112,255,511,1023],false⟩)],[]⟩
theorem Tryz.m45q.ok : plnOk En.Dop.D4 Tryz.prog 45 Tryz.m45q.p = true := by kernel_rfl
def Tryz.m91q.p : Pln := ⟨[],1,⟨[.al 0 0,.fd .str],[⟨0,91,[.fd (.sl 4),.st 0,.hd,.hd,.st 0,.st 0,.fd (.int .i64),.st 0],false⟩]⟩,⟨[.fd .bool],[⟨0,91,[.fd (.sl 4),.fd (.int .i64),.hd,.hd,.fd (.int .i64),.fd (.int .i64),.fd (.int .i64),.fd (.int .i64)],false⟩]⟩,false,[],[]⟩
theorem Tryz.m91q.ok : plnOk En.Dop.D4 Tryz.prog 91 Tryz.m91q.p = true := by kernel_rfl
def Tryz.m204q.p : Pln := ⟨[],1,⟨[.al 0 0],[⟨0,91,[.fd (.sl 4),.st 0,.hd,.hd,.st 0,.st 0,.fd (.int .i64),.st 0],false⟩]⟩,⟨[.fd .bool],[⟨0,91,[.fd (.sl 4),.fd (.int .i64),.hd,.hd,.fd (.int .i64),.fd (.int .i64),.fd (.int .i64),.fd (.int .i64)],false⟩]⟩,false,[],[]⟩
theorem Tryz.m204q.ok : plnOk En.Dop.D4 Tryz.prog 204 Tryz.m204q.p = true := by kernel_rfl
end Go.Proofs
