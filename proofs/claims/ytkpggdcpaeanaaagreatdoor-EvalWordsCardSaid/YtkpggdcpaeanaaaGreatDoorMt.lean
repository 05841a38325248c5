/- Functions of the seat, lifted: plan, model, contract, equations. Written by a program (Lift) that ran the layer's evaluation; Lean checks each line. -/
import Derived.Test.YtkpggdcpaeanaaaGreatDoorMs
import Derived.Test.YtkpggdcpaeanaaaGreatDoorMq
import Derived.Test.YtkpggdcpaeanaaaGreatDoorMm
set_option maxRecDepth 100000
set_option maxHeartbeats 4000000
namespace Go.Proofs.Tryz
open Go Go.En
end Go.Proofs.Tryz
/- Functions of the seat, lifted: plan, model, contract, equations. Written by a program (Lift) that ran the layer's evaluation; Lean checks each line. -/
set_option maxRecDepth 100000
set_option maxHeartbeats 4000000
namespace Go.Proofs.Tryz
open Go Go.En
@[reducible] def m72.q3 : Cut := ⟨[[0,0,0,0,0,1,0,1,1],[0,1,0,0,0,1,0,1,1],[0,1,0,0,1,0,1,1],[2,0,0,1,0,1,1],[1,0],[0,1,1,1]],[1,2],1,⟨[.al 0 0,.fd (.int .i64)],[CT.b0]⟩⟩
def m72.p : Pln := ⟨[(3,m72.q3)],0,⟨[],[]⟩,⟨[.al 0 0],[CT.b0]⟩,false,[],[]⟩
theorem m72.ok : plnOk En.Dop.D4 prog 72 m72.p = true := by kernel_rfl
@[reducible] def m42.q5 : Cut := ⟨[[0,0,0,0,1,0,1,1,1,1],[0,1,0,0,1,0,1,1,1,1],[2,0,0,1,0,1,1,1,1],[1,0],[0,1,1,1,1,1]],[2,5,6,30,31,32],4,⟨[.al 1 0,.al 2 0,.rw 0,.rw 0,.fd (.int .i64),.fd (.int .i64)],[⟨0,0,[.own 0 3],true⟩,⟨1,27,[.own 11 52,.own 12 32,.fd (.int .i64),.own 5 56],false⟩,CH.b2,⟨3,168,[.own 6 93,.mp (.str) 17 false],false⟩]⟩⟩
@[reducible] def m42.q17 : Cut := ⟨[[0,0,0,0,1,0,1,1,1,1,1],[0,1,0,0,1,0,1,1,1,1,1],[2,0,0,1,0,1,1,1,1,1],[1,3],[0,1,1,1,1,1,1]],[2,5,60,61,62],3,⟨[.al 0 0,.al 1 0,.own 0 3,.fd (.int .i64),.fd (.int .i64)],[⟨0,27,[.own 11 52,.own 12 32,.fd (.int .i64),.own 5 56],false⟩,CH.b1,CT.b2]⟩⟩
@[reducible] def m42.q26 : Cut := ⟨[[0,0,0,1,1,1,1,1,1,1,1],[0,1,0,1,1,1,1,1,1,1,1],[0,1,1,1,1,1,1,1,1,1]],[2,5],3,⟨[.al 0 0,.al 1 0],[⟨0,27,[.own 11 52,.own 12 32,.fd (.int .i64),.own 5 56],false⟩,CH.b1,CT.b2]⟩⟩
def m42.p : Pln := ⟨[(5,m42.q5),(17,m42.q17),(26,m42.q26)],0,⟨[.st 7],[]⟩,⟨[.st 13,.fd (.int .i64),.fd (.int .i64)],[]⟩,false,[(1,⟨[(0,false),(1,false),(2,false),(3,false),(4,false),(5,true),(6,false),(7,true)],[1000002],[0,0,0,4,0,31,63,127],false⟩),(27,⟨[(0,true),(1,true),(2,true),(3,true),(4,false),(5,true),(6,true),(7,true),(8,false),(9,false),(10,true),(11,true)],[1000002],[0,0,2,6,14,0,32,96,224,1,543,2047],false⟩)],[]⟩
theorem m42.ok : plnOk En.Dop.D4 prog 42 m42.p = true := by kernel_rfl
def m18.p : Pln := ⟨[],0,⟨[.fd .str],[]⟩,⟨[.st 13,.fd (.int .i64),.fd (.int .i64)],[]⟩,false,[],[]⟩
theorem m18.ok : plnOk En.Dop.D4 prog 18 m18.p = true := by kernel_rfl
end Go.Proofs.Tryz
/- What a run and a frame hold. Written by a program. -/
namespace Go.Proofs
open Go Go.En
abbrev ER : Type := En.Dop.Prg × List (Int) × Int × List (Int) × List (Int) × Int × Int × Int × Int × Unit × Unit
@[reducible] def ER.b0 : En.Box := ⟨0,121,[.st 13,.own 0 3,.st 0,.fd (.sl 3),.own 3 5,.st 0,.st 0,.st 0,.st 0,.hm],false⟩
@[reducible] def ER.b1 : En.Box := ⟨1,121,[.st 13,.own 0 3,.st 0,.fd (.sl 3),.own 3 5,.st 0,.st 0,.st 0,.st 0,.hm],false⟩
@[reducible] def ER.b2 : En.Box := ⟨2,121,[.st 13,.own 0 3,.st 0,.fd (.sl 3),.own 3 5,.st 0,.st 0,.st 0,.st 0,.hm],false⟩
abbrev EF : Type := En.Dop.Fun × List (Int) × Int × Int × List UInt8 × Int × Int × Unit
@[reducible] def EF.b1 : En.Box := ⟨1,163,[.st 11,.own 0 3,.st 0,.st 0,.st 1,.st 0,.st 0],false⟩
@[reducible] def EF.b2 : En.Box := ⟨2,163,[.st 11,.own 0 3,.st 0,.st 0,.st 1,.st 0,.st 0],false⟩
end Go.Proofs
/- Functions of the seat, lifted: plan, model, contract, equations. Written by a program (Lift) that ran the layer's evaluation; Lean checks each line. -/
set_option maxRecDepth 100000
set_option maxHeartbeats 4000000
namespace Go.Proofs.Tryz
open Go Go.En
def m55.p : Pln := ⟨[],1,⟨[.st 11,.al 0 0],[⟨0,9,[.st 1],false⟩]⟩,⟨[.fd .bool],[⟨0,9,[.fd .str],false⟩]⟩,true,[],[]⟩
theorem m55.ok : plnOk En.Dop.D4 prog 55 m55.p = true := by kernel_rfl
@[reducible] def m54_55.q2 : Cut := ⟨[[0,0,0,0,1,0,1],[0,1,0,0,1,0,1],[2,0,0,1,0,1],[1,0],[0,1,1]],[0,1,7,8],1,⟨[.fd (.sl 11),.fn 55 [(0,0)],.fd (.int .i64),.fd (.int .i64)],[⟨0,9,[.fd .str],false⟩]⟩⟩
def m54_55.p : Pln := ⟨[(2,m54_55.q2)],1,⟨[.fd (.sl 11),.fn 55 [(0,0)]],[⟨0,9,[.st 1],false⟩]⟩,⟨[.fd (.int .i64)],[⟨0,9,[.fd .str],false⟩]⟩,true,[],[]⟩
theorem m54_55.ok : plnOk En.Dop.D4 prog 54 m54_55.p = true := by kernel_rfl
def m25.p : Pln := ⟨[],0,⟨[.st 13,.fd .str],[]⟩,⟨[.fd (.int .i64)],[]⟩,true,[],[]⟩
theorem m25.ok : plnOk En.Dop.D4 prog 25 m25.p = true := by kernel_rfl
def m65.p : Pln := ⟨[],1,⟨[.al 0 0,.fd (.int .i64),.fd (.int .i64)],[ER.b0]⟩,⟨[.fd (.int .i64)],[ER.b0]⟩,false,[],[]⟩
theorem m65.ok : plnOk En.Dop.D4 prog 65 m65.p = true := by kernel_rfl
def m152.p : Pln := ⟨[],0,⟨[.st 13,.fd (.int .i64)],[]⟩,⟨[.st 5],[]⟩,true,[],[]⟩
theorem m152.ok : plnOk En.Dop.D4 prog 152 m152.p = true := by kernel_rfl
@[reducible] def m114.q3 : Cut := ⟨[[0,0,0,0,1,0,1,1],[0,1,0,0,1,0,1,1],[2,0,0,1,0,1,1],[1,0],[0,1,1,1]],[1,2,5,9,10],1,⟨[.fd (.int .i64),.al 0 0,.own 0 3,.fd (.int .i64),.fd (.int .i64)],[⟨0,27,[.st 13],false⟩]⟩⟩
def m114.p : Pln := ⟨[(3,m114.q3)],0,⟨[.st 13,.fd (.int .i64)],[]⟩,⟨[.own 0 3],[]⟩,true,[],[]⟩
theorem m114.ok : plnOk En.Dop.D4 prog 114 m114.p = true := by kernel_rfl
@[reducible] def m153.q9 : Cut := ⟨[[0,0,0,1,1,1,0,1,0,1,1,1],[0,1,0,1,1,1,0,1,0,1,1,1],[1,0],[0,1,1,1,1]],[3,5,7],5,⟨[.al 2 0,.al 3 0,.al 4 0],[ER.b0,EF.b1,⟨2,118,[.al 0 0],false⟩,⟨3,161,[.al 1 0],false⟩,⟨4,56,[.st 5],false⟩]⟩⟩
@[reducible] def m153.q10 : Cut := ⟨[[0,0,1,1,1,1,0,1,0,1,1,1],[0,1,1,1,1,1,0,1,0,1,1,1],[1,0],[0,1,1,1,1]],[3,5,7,19],5,⟨[.al 2 0,.al 3 0,.al 4 0,.fd (.int .i64)],[ER.b0,EF.b1,⟨2,118,[.al 0 0],false⟩,⟨3,161,[.al 1 0],false⟩,⟨4,56,[.st 5],false⟩]⟩⟩
def m153.p : Pln := ⟨[(9,m153.q9),(10,m153.q10)],2,⟨[.al 0 0,.fd (.int .i64),.al 1 0],[ER.b0,EF.b1]⟩,⟨[.fd .bool],[ER.b0,EF.b1]⟩,false,[(6,⟨[(0,false),(1,true),(2,true),(3,false),(4,true),(5,true),(6,true),(7,false),(8,false),(9,true),(10,true),(11,false),(12,true),(13,true),(14,true),(15,false),(16,true),(17,false),(18,false),(19,false),(20,true),(21,true)],[2000003,2000005],[0,1,3,7,15,31,63,127,63,319,831,1855,4095,8191,16383,32767,32767,98303,32767,524287,1048575,2097151],false⟩),(9,⟨[(0,false),(1,true),(2,true),(3,false),(4,true),(5,true),(6,true),(7,false),(8,true),(9,true),(10,true),(11,true),(12,false),(13,false),(14,true),(15,true),(16,false),(17,true),(18,true),(19,true),(20,false),(21,true),(22,true),(23,false),(24,true),(25,true),(26,true),(27,false),(28,true),(29,true),(30,true),(31,true),(32,false),(33,true),(34,false),(35,false),(36,false),(37,true),(38,true)],[2000003,2000005],[0,1,3,7,15,31,63,127,255,511,1023,2047,4095,2047,10239,26623,59391,131071,262143,524287,1048575,2097151,4194303,8388607,16777215,33554431,67108863,134217727,268435455,536870911,1073741823,2147483647,4294967295,4294967295,12884901887,4294967295,68719476735,137438953471,274877906943],false⟩),(20,⟨[(0,false),(1,true),(2,true),(3,false),(4,true),(5,false),(6,false),(7,true),(8,false),(9,true)],[2000003,2000005],[0,1,3,7,0,16,63,0,255,511],true⟩)],[]⟩
theorem m153.ok : plnOk En.Dop.D4 prog 153 m153.p = true := by kernel_rfl
def m183_184.p : Pln := ⟨[],4,⟨[.own 0 3,.fn 184 [(0,0),(2,0)]],[⟨0,118,[.al 1 0],false⟩,ER.b1,⟨2,161,[.al 3 0],false⟩,⟨3,163,[.st 11,.own 0 3,.st 0,.st 0,.st 1,.st 0,.st 0],false⟩]⟩,⟨[.fd .bool],[⟨0,118,[.al 1 0],false⟩,ER.b1,⟨2,161,[.al 3 0],false⟩,⟨3,163,[.st 11,.own 0 3,.st 0,.st 0,.st 1,.st 0,.st 0],false⟩]⟩,false,[],[]⟩
theorem m183_184.ok : plnOk En.Dop.D4 prog 183 m183_184.p = true := by kernel_rfl
@[reducible] def m209_184.q2 : Cut := ⟨[[0,0,0,0,1,0,1],[0,1,0,0,1,0,1],[2,0,0,1,0,1],[1,0],[0,1,1]],[0,1,7,8],4,⟨[.own 0 3,.fn 184 [(0,0),(2,0)],.fd (.int .i64),.fd (.int .i64)],[⟨0,118,[.al 1 0],false⟩,ER.b1,⟨2,161,[.al 3 0],false⟩,⟨3,163,[.st 11,.own 0 3,.st 0,.st 0,.st 1,.st 0,.st 0],false⟩]⟩⟩
def m209_184.p : Pln := ⟨[(2,m209_184.q2)],4,⟨[.own 0 3,.fn 184 [(0,0),(2,0)]],[⟨0,118,[.al 1 0],false⟩,ER.b1,⟨2,161,[.al 3 0],false⟩,⟨3,163,[.st 11,.own 0 3,.st 0,.st 0,.st 1,.st 0,.st 0],false⟩]⟩,⟨[.fd (.int .i64)],[⟨0,118,[.al 1 0],false⟩,ER.b1,⟨2,161,[.al 3 0],false⟩,⟨3,163,[.st 11,.own 0 3,.st 0,.st 0,.st 1,.st 0,.st 0],false⟩]⟩,false,[],[]⟩
theorem m209_184.ok : plnOk En.Dop.D4 prog 209 m209_184.p = true := by kernel_rfl
def m184.p : Pln := ⟨[],4,⟨[.fd (.int .i64),.al 0 0,.al 2 0],[⟨0,118,[.al 1 0],false⟩,ER.b1,⟨2,161,[.al 3 0],false⟩,⟨3,163,[.st 11,.own 0 3,.st 0,.st 0,.st 1,.st 0,.st 0],false⟩]⟩,⟨[.fd .bool],[⟨0,118,[.al 1 0],false⟩,ER.b1,⟨2,161,[.al 3 0],false⟩,⟨3,163,[.st 11,.own 0 3,.st 0,.st 0,.st 1,.st 0,.st 0],false⟩]⟩,false,[],[]⟩
theorem m184.ok : plnOk En.Dop.D4 prog 184 m184.p = true := by kernel_rfl
@[reducible] def g153.T : Type := (((Unit × Int × Unit × Unit) × (ER × EF × Unit)) → Option ((Bool × Unit) × (ER × EF × Unit))) × (((List (Int) × Unit × Unit) × ((Unit × Unit) × ER × (Unit × Unit) × EF × Unit)) → Option ((Bool × Unit) × ((Unit × Unit) × ER × (Unit × Unit) × EF × Unit))) × (((List (Int) × Unit × Unit) × ((Unit × Unit) × ER × (Unit × Unit) × EF × Unit)) → Option ((Int × Unit) × ((Unit × Unit) × ER × (Unit × Unit) × EF × Unit))) × (((Int × Unit × Unit × Unit) × ((Unit × Unit) × ER × (Unit × Unit) × EF × Unit)) → Option ((Bool × Unit) × ((Unit × Unit) × ER × (Unit × Unit) × EF × Unit))) × Unit
noncomputable def g153.ct (r : g153.T) : List (Ctr En.Dop.D4) := [⟨153,m153.p.bn,m153.p.sp,m153.p.rs,m153.p.flat,.opt (r.1)⟩,⟨183,m183_184.p.bn,m183_184.p.sp,m183_184.p.rs,m183_184.p.flat,.opt (r.2.1)⟩,⟨209,m209_184.p.bn,m209_184.p.sp,m209_184.p.rs,m209_184.p.flat,.opt (r.2.2.1)⟩,⟨184,m184.p.bn,m184.p.sp,m184.p.rs,m184.p.flat,.opt (r.2.2.2.1)⟩]
def m117.p : Pln := ⟨[],1,⟨[.al 0 0],[ER.b0]⟩,⟨[.fd .bool],[ER.b0]⟩,false,[],[]⟩
theorem m117.ok : plnOk En.Dop.D4 prog 117 m117.p = true := by kernel_rfl
def m255.p : Pln := ⟨[],0,⟨[.fd (.int .i64)],[]⟩,⟨[.fd (.int .i64)],[]⟩,true,[],[]⟩
theorem m255.ok : plnOk En.Dop.D4 prog 255 m255.p = true := by kernel_rfl
def m256.p : Pln := ⟨[],0,⟨[.fd (.int .i64)],[]⟩,⟨[.fd (.int .i64),.fd .bool],[]⟩,true,[],[]⟩
theorem m256.ok : plnOk En.Dop.D4 prog 256 m256.p = true := by kernel_rfl
@[reducible] def m257.q3 : Cut := ⟨[[0,0,1,2,0,1],[0,1,1,2,0,1],[3,0,1]],[],0,⟨[],[]⟩⟩
def m257.p : Pln := ⟨[(3,m257.q3)],0,⟨[.fd (.int .i64),.fd (.int .i64)],[]⟩,⟨[.fd (.int .i64),.fd (.int .i64),.fd .bool],[]⟩,true,[(2,⟨[(0,true),(1,true),(2,true),(3,true),(4,true),(5,true),(6,true),(7,true),(8,true)],[],[0,0,3,0,0,24,7,127,255],false⟩)],[]⟩
theorem m257.ok : plnOk En.Dop.D4 prog 257 m257.p = true := by kernel_rfl
def m258.p : Pln := ⟨[],0,⟨[.fd .bool],[]⟩,⟨[.fd (.int .i64)],[]⟩,true,[],[]⟩
theorem m258.ok : plnOk En.Dop.D4 prog 258 m258.p = true := by kernel_rfl
@[reducible] def m236.q12 : Cut := ⟨[[0,0,0,1,1,1,1,1,1,1,0,1,0,1,1,1],[0,1,0,1,1,1,1,1,1,1,0,1,0,1,1,1],[1,0],[0,1,1,1,1]],[0,1,2],0,⟨[.fd (.int .i64),.fd (.int .i64),.fd (.int .i64)],[]⟩⟩
@[reducible] def m236.q16 : Cut := ⟨[[0,0,0,1,1,1,1,1,1,1,1,0,1,0,1,1,1],[0,1,0,1,1,1,1,1,1,1,1,0,1,0,1,1,1],[0,1,1,1,1,1,1,1,1,1,0,1,0,1,1,1],[1,0],[0,1,1,1,1]],[0,1,2,8,19],0,⟨[.fd (.int .i64),.fd (.int .i64),.fd (.int .i64),.fn 256 [],.fd (.int .i64)],[]⟩⟩
@[reducible] def m236.q15 : Cut := ⟨[[0,0,1,1,0,1,1,1,1,1,1,1,0,1,0,1,1,1],[0,1,1,1,0,1,1,1,1,1,1,1,0,1,0,1,1,1],[1,0],[0,1,1,1,1]],[9,11],0,⟨[.fd (.int .i64),.fd .bool],[]⟩⟩
@[reducible] def m236.q18 : Cut := ⟨[[0,0,0,1,1,1,1,1,1,1,1,1,0,1,0,1,1,1],[0,1,0,1,1,1,1,1,1,1,1,1,0,1,0,1,1,1],[1,0],[0,1,1,1,1]],[0,1,2],0,⟨[.fd (.int .i64),.fd (.int .i64),.fd (.int .i64)],[]⟩⟩
@[reducible] def m236.q22 : Cut := ⟨[[0,0,1,1,1,1,1,1,1,1,1,1,0,1,0,1,1,1],[0,1,1,1,1,1,1,1,1,1,1,1,0,1,0,1,1,1],[1,0],[0,1,1,1,1]],[1,2,8,19],0,⟨[.fd (.int .i64),.fd (.int .i64),.fn 256 [],.fd (.int .i64)],[]⟩⟩
@[reducible] def m236.q21 : Cut := ⟨[[0,0,1,1,0,1,1,1,1,1,1,1,1,1,0,1,0,1,1,1],[0,1,1,1,0,1,1,1,1,1,1,1,1,1,0,1,0,1,1,1],[1,0],[0,1,1,1,1]],[12,14],0,⟨[.fd (.int .i64),.fd .bool],[]⟩⟩
def m236.p : Pln := ⟨[(12,m236.q12),(16,m236.q16),(15,m236.q15),(18,m236.q18),(22,m236.q22),(21,m236.q21)],0,⟨[.fd (.int .i64),.fd (.int .i64),.fd (.int .i64)],[]⟩,⟨[.fd (.int .i64),.fd .bool],[]⟩,true,[],[]⟩
theorem m236.ok : plnOk En.Dop.D4 prog 236 m236.p = true := by kernel_rfl
def m213.p : Pln := ⟨[],0,⟨[.fd .bool],[]⟩,⟨[.fd (.int .i64)],[]⟩,true,[],[]⟩
theorem m213.ok : plnOk En.Dop.D4 prog 213 m213.p = true := by kernel_rfl
@[reducible] def m63.q4 : Cut := ⟨[[0,0,0,0,1,0,1,1],[0,1,0,0,1,0,1,1],[2,0,0,1,0,1,1],[1,0],[0,1,1,1]],[0,1,12,13],0,⟨[.fd (.sl 3),.fd (.sl 3),.fd (.int .i64),.fd (.int .i64)],[]⟩⟩
def m63.p : Pln := ⟨[(4,m63.q4)],0,⟨[.fd (.sl 3),.fd (.sl 3)],[]⟩,⟨[.fd .bool],[]⟩,true,[(6,⟨[(0,true),(1,true),(2,false),(3,false),(4,true),(5,true),(6,false),(7,false),(8,true)],[],[0,0,3,7,0,0,48,112,255],false⟩)],[]⟩
noncomputable def m63.E : Env En.Dop.D4 := envOf prog 63 tb [] m63.p
theorem m63.ok : plnOk En.Dop.D4 prog 63 m63.p = true := by kernel_rfl
noncomputable def m63.c : Ctr En.Dop.D4 := ⟨63,m63.p.bn,m63.p.sp,m63.p.rs,m63.p.flat,.opt (m63.E.run 3000 m63.p.sp)⟩
theorem m63.holds : m63.c.Holds prog := fun_ctr 3000 tbOk hct_nil m63.ok
noncomputable def m63 (s1 : List (Int)) (s2 : List (Int)) : Option ((Bool × Unit) × Unit) := m63.E.run 3000 m63.p.sp ((s1,s2,()),())
noncomputable def m63_4 (s1 : List (Int)) (s2 : List (Int)) (t12 : Int) (t13 : Int) : Option ((Bool × Unit) × Unit) := m63.E.cut 3000 4 ((s1,s2,t12,t13,()),())
theorem m63_eq (s1 : List (Int)) (s2 : List (Int)) : m63 s1 s2 =
 if (!decide (I s1.length = I s2.length)) = true then
  some ((false,()),())
 else
  m63_4 (s1) (s2) (I s1.length) ((0 : Int)) := by kernel_rfl
theorem m63_4_eq (s1 : List (Int)) (s2 : List (Int)) (t12 : Int) (t13 : Int) : m63_4 s1 s2 t12 t13 =
 if (decide (t13 < t12)) = true then
  if (decide ((0 : Int) ≤ t13 ∧ t13 < I s1.length)) = true then
  if (decide ((0 : Int) ≤ t13 ∧ t13 < I s2.length)) = true then
  if (!decide (@List.getD Int s1 t13.toNat (0 : Int) = @List.getD Int s2 t13.toNat (0 : Int))) = true then
  some ((false,()),())
  else
  if (inR (t13 + (1 : Int))) = true then
  m63_4 (s1) (s2) (t12) (t13 + (1 : Int))
  else none
  else none
  else none
 else
  some ((true,()),()) := Env.cut_eq' (E := m63.E) (f0 := 3000) (c := 4) (q := m63.q4) (by kernel_rfl) ((s1,s2,t12,t13,()),()) (by kernel_rfl) (by kernel_rfl)
def m34.p : Pln := ⟨[],0,⟨[.st 19,.st 19],[]⟩,⟨[.fd .bool],[]⟩,true,[],[]⟩
noncomputable def m34.E : Env En.Dop.D4 := envOf prog 34 tb [m63.c] m34.p
theorem m34.ok : plnOk En.Dop.D4 prog 34 m34.p = true := by kernel_rfl
noncomputable def m34.c : Ctr En.Dop.D4 := ⟨34,m34.p.bn,m34.p.sp,m34.p.rs,m34.p.flat,.opt (m34.E.run 3000 m34.p.sp)⟩
theorem m34.holds : m34.c.Holds prog := fun_ctr 3000 tbOk (hct_cons m63.holds hct_nil) m34.ok
noncomputable def m34 (a : En.Dop.Rsl) (b : En.Dop.Rsl) : Option ((Bool × Unit) × Unit) := m34.E.run 3000 m34.p.sp ((a,b,()),())
theorem m34_eq (a : En.Dop.Rsl) (b : En.Dop.Rsl) : m34 a b =
 if (decide (a.end_ = b.end_)) = true then
  if (decide (a.code = b.code)) = true then
  (m63 (a.output) (b.output)).bind fun y4 =>
   some ((y4.fst.fst,()),())
  else
  some ((false,()),())
 else
  some ((false,()),()) := by kernel_rfl
def m37.p : Pln := ⟨[],0,⟨[.st 19,.st 19],[]⟩,⟨[.fd .bool],[]⟩,true,[(1,⟨[(0,true),(1,false),(2,false),(3,true),(4,false),(5,false),(6,true),(7,true),(8,true),(9,false),(10,true),(11,false),(12,true),(13,false),(14,false),(15,true),(16,false),(17,true),(18,true)],[],[0,1,3,0,8,24,63,127,255,511,255,1279,255,4351,12543,31999,65535,131071,262143],false⟩)],[]⟩
noncomputable def m37.E : Env En.Dop.D4 := envOf prog 37 tb [m63.c] m37.p
theorem m37.ok : plnOk En.Dop.D4 prog 37 m37.p = true := by kernel_rfl
noncomputable def m37.c : Ctr En.Dop.D4 := ⟨37,m37.p.bn,m37.p.sp,m37.p.rs,m37.p.flat,.opt (m37.E.run 3000 m37.p.sp)⟩
theorem m37.holds : m37.c.Holds prog := fun_ctr 3000 tbOk (hct_cons m63.holds hct_nil) m37.ok
noncomputable def m37 (a : En.Dop.Rsl) (b : En.Dop.Rsl) : Option ((Bool × Unit) × Unit) := m37.E.run 3000 m37.p.sp ((a,b,()),())
theorem m37_eq (a : En.Dop.Rsl) (b : En.Dop.Rsl) : m37 a b =
 if (decide (I a.output.length ≤ I b.output.length)) = true then
  if (decide ((0 : Int) ≤ (0 : Int) ∧ (0 : Int) ≤ I a.output.length ∧ I a.output.length ≤ I b.output.length)) = true then
  (m63 (a.output) (List.drop (Int.toNat (0 : Int)) (List.take (I a.output.length).toNat b.output))).bind fun y3 =>
  some ((y3.fst.fst,()),())
  else none
 else
  some ((false,()),()) := by kernel_rfl
end Go.Proofs.Tryz
/- Functions of the seat, lifted: plan, model, contract, equations. Written by a program (Lift) that ran the layer's evaluation; Lean checks each line. -/
set_option maxRecDepth 100000
set_option maxHeartbeats 4000000
namespace Go.Proofs.Tryz
open Go Go.En
@[reducible] def m64.q9 : Cut := ⟨[[0,0,0,1,1,1,1,1,1,1,0,1],[0,1,0,1,1,1,1,1,1,1,0,1],[0,1,1,1,1,1,1,1,1,0,1],[3,0,1]],[0,7,8],3,⟨[.al 0 0,.al 1 0,.al 2 0],[ER.b0,⟨1,52,[.st 11],false⟩,EF.b2]⟩⟩
@[reducible] def m64.q100009 : Cut := ⟨[[0,0,0,1,2,0,1],[0,1,0,1,2,0,1],[0,1,1,2,0,1],[3,0,1]],[0,7,8],3,⟨[.al 0 0,.al 1 0,.al 2 0],[ER.b0,⟨1,52,[.st 11],false⟩,EF.b2]⟩⟩
def m64.p : Pln := ⟨[(9,m64.q9),(100009,m64.q100009)],1,⟨[.al 0 0,.fd (.int .i64),.fd (.sl 0)],[ER.b0]⟩,⟨[.fd (.int .i64)],[ER.b0]⟩,false,[(4,⟨[(0,true),(1,true),(2,true),(3,false),(4,true),(5,false),(6,true),(7,true),(8,true),(9,true),(10,false),(11,false),(12,true)],[],[0,1,3,7,0,16,63,0,128,384,896,1920,4095],false⟩),(6,⟨[(0,false),(1,true),(2,false),(3,false),(4,true),(5,true),(6,true),(7,false),(8,true),(9,false),(10,true)],[],[0,0,2,6,0,16,48,112,255,511,1023],false⟩),(8,⟨[(0,true),(1,true),(2,true),(3,false),(4,true),(5,false),(6,true),(7,true),(8,true)],[9],[0,1,3,7,0,16,63,127,255,511],false⟩),(11,⟨[(0,true),(1,true),(2,true),(3,false),(4,true),(5,false),(6,true),(7,true),(8,true)],[9],[0,1,3,7,0,16,63,127,255,511],false⟩)],[]⟩
theorem m64.ok : plnOk En.Dop.D4 prog 64 m64.p = true := by kernel_rfl
def m116.p : Pln := ⟨[],2,⟨[.al 0 0,.fd (.int .i64),.al 1 0],[ER.b0,EF.b1]⟩,⟨[.fd (.int .i64)],[ER.b0,EF.b1]⟩,false,[],[]⟩
theorem m116.ok : plnOk En.Dop.D4 prog 116 m116.p = true := by kernel_rfl
@[reducible] def m154.q18 : Cut := ⟨[[0,0,1,1,1,1,1,1,0,1,0,1],[0,1,1,1,1,1,1,1,0,1,0,1],[1,0],[0,1,1]],[0,2,4,11],3,⟨[.al 0 0,.al 1 0,.al 2 0,.fd (.int .i64)],[ER.b0,EF.b1,⟨2,56,[.st 5],false⟩]⟩⟩
@[reducible] def m154.q35 : Cut := ⟨[[0,0,0,0,1,1,1,1,1,1,1,1,1,1,1,1,1,1,1,1,1,0,1,0,1],[0,1,0,0,1,1,1,1,1,1,1,1,1,1,1,1,1,1,1,1,1,0,1,0,1],[0,1,0,1,1,1,1,1,1,1,1,1,1,1,1,1,1,1,1,1,0,1,0,1],[1,0],[0,1,1]],[0,2,4],3,⟨[.al 0 0,.al 1 0,.al 2 0],[ER.b0,EF.b1,⟨2,56,[.st 5],false⟩]⟩⟩
@[reducible] def m154.q38 : Cut := ⟨[[0,0,1,1,1,1,1,1,1,1,1,1,1,1,1,1,1,1,1,1,0,1,0,1],[0,1,1,1,1,1,1,1,1,1,1,1,1,1,1,1,1,1,1,1,0,1,0,1],[1,0],[0,1,1]],[0,2,4,11],3,⟨[.al 0 0,.al 1 0,.al 2 0,.fd (.int .i64)],[ER.b0,EF.b1,⟨2,56,[.st 5],false⟩]⟩⟩
@[reducible] def m154.q42 : Cut := ⟨[[0,0,0,0,1,0,1,1,1,1,1,1,1,1,1,1,1,1,1,1,1,1,1,1,1,1,1,0,1,0,1],[0,1,0,0,1,0,1,1,1,1,1,1,1,1,1,1,1,1,1,1,1,1,1,1,1,1,1,0,1,0,1],[2,0,0,1,0,1,1,1,1,1,1,1,1,1,1,1,1,1,1,1,1,1,1,1,1,1,0,1,0,1],[1,1],[1,0],[0,1,1]],[0,2,182,183,184],2,⟨[.al 0 0,.al 1 0,.own 0 3,.fd (.int .i64),.fd (.int .i64)],[ER.b0,EF.b1]⟩⟩
def m154.p : Pln := ⟨[(18,m154.q18),(35,m154.q35),(38,m154.q38),(42,m154.q42)],2,⟨[.al 0 0,.st 5,.al 1 0],[ER.b0,EF.b1]⟩,⟨[.fd (.int .i64)],[ER.b0,EF.b1]⟩,false,[(30,⟨[(0,true),(1,true),(2,true),(3,false),(4,true),(5,true),(6,true),(7,true),(8,true),(9,false),(10,true),(11,false),(12,true),(13,true)],[],[0,1,3,7,15,31,63,127,255,511,63,1087,4095,8191],false⟩),(35,⟨[(0,true),(1,true),(2,true),(3,false),(4,true),(5,true),(6,true),(7,false),(8,true),(9,true),(10,true),(11,true),(12,false),(13,true),(14,true),(15,true),(16,false),(17,true),(18,true),(19,true),(20,true),(21,true),(22,true),(23,false),(24,true),(25,true),(26,true),(27,false),(28,true),(29,true),(30,true)],[],[0,1,3,7,15,31,63,127,255,511,1023,2047,4095,2047,10239,26623,59391,131071,262143,524287,1048575,2097151,4194303,8388607,16777215,33554431,67108863,134217727,268435455,536870911,1073741823],false⟩),(41,⟨[(0,true),(1,true),(2,true),(3,false),(4,true),(5,false),(6,false),(7,false),(8,true)],[],[0,1,3,7,0,16,63,127,0],true⟩)],[]⟩
theorem m154.ok : plnOk En.Dop.D4 prog 154 m154.p = true := by kernel_rfl
@[reducible] def m185.q15 : Cut := ⟨[[0,0,1,1,1,1,1,1,1,1,0,1,0,1,1,1,1],[0,1,1,1,1,1,1,1,1,1,0,1,0,1,1,1,1],[1,0],[0,1,1,1,1,1]],[3,5,7,8,28],5,⟨[.al 2 0,.al 3 0,.al 4 0,.fn 210 [(2,0),(3,0)],.fd (.int .i64)],[ER.b0,EF.b1,⟨2,118,[.al 0 0],false⟩,⟨3,161,[.al 1 0],false⟩,⟨4,56,[.st 5],false⟩]⟩⟩
@[reducible] def m185.q23 : Cut := ⟨[[0,0,1,1,1,1,1,1,1,1,1,1,1,1,0,1,0,1,1,1,1],[0,1,1,1,1,1,1,1,1,1,1,1,1,1,0,1,0,1,1,1,1],[1,0],[0,1,1,1,1,1]],[3,7,8,28],5,⟨[.al 2 0,.al 3 0,.fn 210 [(2,0),(4,0)],.fd (.int .i64)],[ER.b0,EF.b1,⟨2,118,[.al 0 0],false⟩,⟨3,56,[.st 5],false⟩,⟨4,161,[.al 1 0],false⟩]⟩⟩
@[reducible] def m185.q34 : Cut := ⟨[[0,0,0,0,1,0,1,0,1,1,1,1,1,1,1,1,1,1,1,1,1,1,1,1,1,1,1,0,1,0,1,1,1,1],[0,1,0,0,1,0,1,0,1,1,1,1,1,1,1,1,1,1,1,1,1,1,1,1,1,1,1,0,1,0,1,1,1,1],[2,0,0,1,0,1,0,1,1,1,1,1,1,1,1,1,1,1,1,1,1,1,1,1,1,1,0,1,0,1,1,1,1],[1,1],[0,1,1,0,1,1,1,1,1,1,1,1,1,1,1,1,1,1,1,1,1,1,1,0,1,0,1,1,1,1],[1,0],[0,1,1,1,1,1]],[3,7,8,10,140,141,142],5,⟨[.al 2 0,.al 3 0,.fn 210 [(2,0),(4,0)],.own 0 3,.own 0 3,.fd (.int .i64),.fd (.int .i64)],[ER.b0,EF.b1,⟨2,118,[.al 0 0],false⟩,⟨3,56,[.st 5],false⟩,⟨4,161,[.al 1 0],false⟩]⟩⟩
def m185.p : Pln := ⟨[(15,m185.q15),(23,m185.q23),(34,m185.q34)],2,⟨[.al 0 0,.fd (.int .i64),.al 1 0],[ER.b0,EF.b1]⟩,⟨[.fd (.int .i64)],[ER.b0,EF.b1]⟩,false,[(9,⟨[(0,false),(1,true),(2,true),(3,false),(4,true),(5,false),(6,false),(7,false),(8,true)],[],[0,1,3,7,0,16,63,127,255],false⟩),(11,⟨[(0,false),(1,true),(2,true),(3,false),(4,true),(5,false),(6,true),(7,false),(8,true)],[],[0,1,3,7,0,16,63,127,255],false⟩),(18,⟨[(0,false),(1,true),(2,true),(3,false),(4,true),(5,false),(6,true),(7,false)],[8],[0,1,3,7,0,16,0,127,255],false⟩),(33,⟨[(0,false),(1,true),(2,true),(3,false),(4,true),(5,false),(6,false),(7,false),(8,true)],[],[0,1,3,7,0,16,63,127,0],true⟩),(38,⟨[(0,false),(1,false),(2,true),(3,true),(4,false),(5,true),(6,false),(7,false),(8,true),(9,false),(10,true)],[2000003,9000000],[0,0,2,6,14,0,32,126,0,511,1023],true⟩),(43,⟨[(0,false),(1,false),(2,true),(3,true),(4,false),(5,true),(6,true),(7,true)],[8],[0,0,2,6,14,30,63,127,255],false⟩),(48,⟨[(0,false),(1,false),(2,true),(3,true),(4,false),(5,true),(6,true),(7,false),(8,false),(9,true),(10,true)],[11],[0,0,2,6,14,0,32,96,254,511,1023,2047],false⟩)],[]⟩
theorem m185.ok : plnOk En.Dop.D4 prog 185 m185.p = true := by kernel_rfl
def m211.p : Pln := ⟨[],2,⟨[.al 0 0,.st 5,.al 1 0],[ER.b0,EF.b1]⟩,⟨[.fd (.int .i64)],[ER.b0,EF.b1]⟩,false,[],[(235,[])]⟩
theorem m211.ok : plnOk En.Dop.D4 prog 211 m211.p = true := by kernel_rfl
def m210.p : Pln := ⟨[],4,⟨[.fd (.int .i64),.al 0 0,.al 2 0],[⟨0,118,[.al 1 0],false⟩,ER.b1,⟨2,161,[.al 3 0],false⟩,⟨3,163,[.st 11,.own 0 3,.st 0,.st 0,.st 1,.st 0,.st 0],false⟩]⟩,⟨[.fd (.int .i64)],[⟨0,118,[.al 1 0],false⟩,ER.b1,⟨2,161,[.al 3 0],false⟩,⟨3,163,[.st 11,.own 0 3,.st 0,.st 0,.st 1,.st 0,.st 0],false⟩]⟩,false,[],[]⟩
theorem m210.ok : plnOk En.Dop.D4 prog 210 m210.p = true := by kernel_rfl
def m212.p : Pln := ⟨[],2,⟨[.al 0 0,.st 5,.al 1 0],[ER.b0,EF.b1]⟩,⟨[.fd (.int .i64)],[ER.b0,EF.b1]⟩,false,[],[]⟩
theorem m212.ok : plnOk En.Dop.D4 prog 212 m212.p = true := by kernel_rfl
@[reducible] def m186.q6 : Cut := ⟨[[0,0,1,1,1],[0,1,1,1,1]],[0,2,4,7],3,⟨[.al 0 0,.al 1 0,.al 2 0,.fd (.int .i64)],[ER.b0,EF.b1,⟨2,56,[.st 5],false⟩]⟩⟩
@[reducible] def m186.q7 : Cut := ⟨[[0,0,0,0,0,1,1,1,1],[0,1,0,0,0,1,1,1,1],[1,1],[2,0,0,1,1,1,1],[1,0]],[0,2,4,7,8],3,⟨[.al 0 0,.al 1 0,.al 2 0,.fd (.int .i64),.fd .bool],[ER.b0,EF.b1,⟨2,56,[.st 5],false⟩]⟩⟩
@[reducible] def m186.q10 : Cut := ⟨[[0,0,0,1,1,0,0,0,1,1,1,1],[0,1,0,1,1,0,0,0,1,1,1,1],[0,1,1,1,0,0,0,1,1,1,1],[1,1],[2,0,0,1,1,1,1],[1,0]],[0,2,4,7,8,9],3,⟨[.al 0 0,.al 1 0,.al 2 0,.fd (.int .i64),.fd .bool,.fd (.int .i64)],[ER.b0,EF.b1,⟨2,56,[.st 5],false⟩]⟩⟩
@[reducible] def m186.q22 : Cut := ⟨[[0,0,0,1,1,1,0,1,1,0,1,1,1,1,1,0,0,0,1,1,1,1],[0,1,0,1,1,1,0,1,1,0,1,1,1,1,1,0,0,0,1,1,1,1],[1,2],[0,1,1,1,1,1,1,0,0,0,1,1,1,1],[1,1],[2,0,0,1,1,1,1],[1,0]],[10],2,⟨[.fd (.int .i64)],[ER.b0,EF.b1]⟩⟩
@[reducible] def m186.q23 : Cut := ⟨[[0,0,0,1,1,1,1,1,1,0,0,0,1,1,1,1],[0,1,0,1,1,1,1,1,1,0,0,0,1,1,1,1],[0,1,1,1,1,1,1,1,0,0,0,1,1,1,1],[1,1],[2,0,0,1,1,1,1],[1,0]],[0,2,4,7,8],3,⟨[.al 0 0,.al 1 0,.al 2 0,.fd (.int .i64),.fd .bool],[ER.b0,EF.b1,⟨2,56,[.st 5],false⟩]⟩⟩
@[reducible] def m186.q25 : Cut := ⟨[[0,0,1,1,1,1,1,1,1,0,0,0,1,1,1,1],[0,1,1,1,1,1,1,1,1,0,0,0,1,1,1,1],[1,1],[2,0,0,1,1,1,1],[1,0]],[0,2,4,7,8],3,⟨[.al 0 0,.al 1 0,.al 2 0,.fd (.int .i64),.fd .bool],[ER.b0,EF.b1,⟨2,56,[.st 5],false⟩]⟩⟩
def m186.p : Pln := ⟨[(6,m186.q6),(7,m186.q7),(10,m186.q10),(22,m186.q22),(23,m186.q23),(25,m186.q25)],2,⟨[.al 0 0,.st 5,.al 1 0],[ER.b0,EF.b1]⟩,⟨[.fd (.int .i64)],[ER.b0,EF.b1]⟩,false,[],[]⟩
theorem m186.ok : plnOk En.Dop.D4 prog 186 m186.p = true := by kernel_rfl
def m187.p : Pln := ⟨[],2,⟨[.al 0 0,.st 5,.al 1 0],[ER.b0,EF.b1]⟩,⟨[.fd (.int .i64)],[ER.b0,EF.b1]⟩,false,[],[]⟩
theorem m187.ok : plnOk En.Dop.D4 prog 187 m187.p = true := by kernel_rfl
@[reducible] def g64.T : Type := (((Unit × Int × List (Int) × Unit) × (ER × Unit)) → Option ((Int × Unit) × (ER × Unit))) × (((Unit × Int × Unit × Unit) × (ER × EF × Unit)) → Option ((Int × Unit) × (ER × EF × Unit))) × (((Unit × En.Dop.Nde × Unit × Unit) × (ER × EF × Unit)) → Option ((Int × Unit) × (ER × EF × Unit))) × (((Unit × Int × Unit × Unit) × (ER × EF × Unit)) → Option ((Int × Unit) × (ER × EF × Unit))) × (((Unit × En.Dop.Nde × Unit × Unit) × (ER × EF × Unit)) → Option ((Int × Unit) × (ER × EF × Unit))) × (((Int × Unit × Unit × Unit) × ((Unit × Unit) × ER × (Unit × Unit) × EF × Unit)) → Option ((Int × Unit) × ((Unit × Unit) × ER × (Unit × Unit) × EF × Unit))) × (((Unit × En.Dop.Nde × Unit × Unit) × (ER × EF × Unit)) → Option ((Int × Unit) × (ER × EF × Unit))) × (((Unit × En.Dop.Nde × Unit × Unit) × (ER × EF × Unit)) → Option ((Int × Unit) × (ER × EF × Unit))) × (((Unit × En.Dop.Nde × Unit × Unit) × (ER × EF × Unit)) → Option ((Int × Unit) × (ER × EF × Unit))) × Unit
noncomputable def g64.ct (r : g64.T) : List (Ctr En.Dop.D4) := [⟨64,m64.p.bn,m64.p.sp,m64.p.rs,m64.p.flat,.opt (r.1)⟩,⟨116,m116.p.bn,m116.p.sp,m116.p.rs,m116.p.flat,.opt (r.2.1)⟩,⟨154,m154.p.bn,m154.p.sp,m154.p.rs,m154.p.flat,.opt (r.2.2.1)⟩,⟨185,m185.p.bn,m185.p.sp,m185.p.rs,m185.p.flat,.opt (r.2.2.2.1)⟩,⟨211,m211.p.bn,m211.p.sp,m211.p.rs,m211.p.flat,.opt (r.2.2.2.2.1)⟩,⟨210,m210.p.bn,m210.p.sp,m210.p.rs,m210.p.flat,.opt (r.2.2.2.2.2.1)⟩,⟨212,m212.p.bn,m212.p.sp,m212.p.rs,m212.p.flat,.opt (r.2.2.2.2.2.2.1)⟩,⟨186,m186.p.bn,m186.p.sp,m186.p.rs,m186.p.flat,.opt (r.2.2.2.2.2.2.2.1)⟩,⟨187,m187.p.bn,m187.p.sp,m187.p.rs,m187.p.flat,.opt (r.2.2.2.2.2.2.2.2.1)⟩]
@[reducible] def m36.q3 : Cut := ⟨[[0,0,0,0,1,0,1,1],[0,1,0,0,1,0,1,1],[2,0,0,1,0,1,1],[1,0],[0,1,1,1]],[3,6,7,22,23,24],3,⟨[.al 0 0,.al 1 0,.al 2 0,.fd (.sl 12),.fd (.int .i64),.fd (.int .i64)],[⟨0,27,[.st 13],false⟩,⟨1,61,[.fd (.int .i64),.fd (.int .i64),.own 3 5],false⟩,ER.b2]⟩⟩
def m36.p : Pln := ⟨[(3,m36.q3)],0,⟨[.st 13,.fd (.sl 3),.fd (.int .i64)],[]⟩,⟨[.st 19],[]⟩,false,[(1,⟨[(0,false),(1,false),(2,true),(3,false),(4,true),(5,true),(6,true),(7,true),(8,true),(9,false),(10,true)],[],[0,0,0,4,0,0,32,96,255,511,1023],false⟩),(5,⟨[(0,true),(1,true),(2,true),(3,false),(4,true),(5,false),(6,true),(7,false),(8,false)],[9],[0,1,3,7,0,16,0,64,255,511],false⟩),(10,⟨[(0,true),(1,true),(2,true),(3,false),(4,true),(5,true),(6,true),(7,false),(8,true),(9,true),(10,true),(11,false),(12,true)],[13],[0,1,3,7,0,16,48,112,0,256,768,1792,4095,8191],false⟩)],[]⟩
theorem m36.ok : plnOk En.Dop.D4 prog 36 m36.p = true := by kernel_rfl
end Go.Proofs.Tryz
/- Functions of the seat, lifted: plan, model, contract, equations. Written by a program (Lift) that ran the layer's evaluation; Lean checks each line. -/
set_option maxRecDepth 100000
set_option maxHeartbeats 4000000
namespace Go.Proofs.Tryz
open Go Go.En
def m30.p : Pln := ⟨[],0,⟨[.fd .str,.fd (.sl 3),.fd (.int .i64)],[]⟩,⟨[.st 19,.fd (.int .i64)],[]⟩,false,[],[]⟩
theorem m30.ok : plnOk En.Dop.D4 prog 30 m30.p = true := by kernel_rfl
def m29.p : Pln := ⟨[],0,⟨[],[]⟩,⟨[.fd .bool],[]⟩,true,[],[]⟩
theorem m29.ok : plnOk En.Dop.D4 prog 29 m29.p = true := by kernel_rfl
end Go.Proofs.Tryz
