/-
 Functions of the seat, lifted: plan, model, contract, equations. Written by a program (Lift) that ran the layer's evaluation; Lean checks each line.
-/
import Derived.Test.YtkpokomghbhadaaGreatDoorEnR
import Derived.Test.YtkpokomghbhadaaGreatDoorLb
import Derived.Test.YtkpokomghbhadaaGreatDoorTab2
set_option maxRecDepth 100000
set_option maxHeartbeats 4000000
namespace Go.Proofs
open Go Go.En
open Tryz
abbrev bxA : Box := ⟨0,77,[.fd (.sl 4),.st 0,.own 5 33,.own 6 65,.st 0,.st 0,.fd (.int .i64),.st 0],false⟩
abbrev bxB : Box := ⟨0,77,[.fd (.sl 4),.fd (.int .i64),.own 5 33,.own 6 65,.fd (.int .i64),.fd (.int .i64),.fd (.int .i64),.fd (.int .i64)],false⟩
def Tryz.m56.p : Pln := ⟨[],1,⟨[.al 0 0],[bxA]⟩,⟨[.fd (.int .i64)],[bxB]⟩,false,[(3,⟨[(0,true),(1,true),(2,true),(3,false),(4,true),(5,true),(6,true),(7,false),(8,false),(9,true),(10,false),(11,false),(12,false)],[13],[0,1,3,7,0,16,48,112,240,496,1023,2047,0,8191],false⟩)],[]⟩
noncomputable def Tryz.m56.E : Env En.Dop.D4 := envOf Tryz.prog 56 Tryz.tb [] Tryz.m56.p
theorem Tryz.m56.ok : plnOk En.Dop.D4 Tryz.prog 56 Tryz.m56.p = true := by kernel_rfl
noncomputable def Tryz.m56.c : Ctr En.Dop.D4 := ⟨56,Tryz.m56.p.bn,Tryz.m56.p.sp,Tryz.m56.p.rs,Tryz.m56.p.flat,.opt (Tryz.m56.E.run 3000 Tryz.m56.p.sp)⟩
theorem Tryz.m56.holds : Tryz.m56.c.Holds Tryz.prog := fun_ctr 3000 Tryz.tbOk hct_nil Tryz.m56.ok
noncomputable def Tryz.m56 (c0 : List Dop.Tok) (c1 : Int) (c2 : List Dop.Nde) (c3 : List Dop.Typ) (c4 c5 c6 c7 : Int) : Option (Spec.D En.Dop.D4 ⟨[.fd (.int .i64)],[bxB]⟩) := Tryz.m56.E.run 3000 Tryz.m56.p.sp (((),()),((c0,c1,c2,c3,c4,c5,c6,c7,()),()))
theorem Tryz.m56_eq (c0 : List Dop.Tok) (c1 : Int) (c2 : List Dop.Nde) (c3 : List Dop.Typ) (c4 c5 c6 c7 : Int) : m56 c0 c1 c2 c3 c4 c5 c6 c7 =
 if (decide (I c0.length = (0 : Int))) = true then
 some (((0 : Int),()),((c0,(c1,(c2,(c3,(c4,(c5,(c6,(c7,())))))))),()))
 else
 if (inR (I c0.length - (1 : Int))) = true then
 if (decide ((0 : Int) ≤ I c0.length - (1 : Int) ∧ I c0.length - (1 : Int) < I c0.length)) = true then
 if (inR ((@List.getD Dop.Tok c0 (I c0.length - (1 : Int)).toNat Dop.d4).at_ + I (@List.getD Dop.Tok c0 (I c0.length - (1 : Int)).toNat Dop.d4).text.length)) = true then
 some (((@List.getD Dop.Tok c0 (I c0.length - (1 : Int)).toNat Dop.d4).at_ + I (@List.getD Dop.Tok c0 (I c0.length - (1 : Int)).toNat Dop.d4).text.length,()),((c0,(c1,(c2,(c3,(c4,(c5,(c6,(c7,())))))))),()))
 else none
 else none
 else none := by kernel_rfl
def Tryz.m32.p : Pln := ⟨[],1,⟨[.al 0 0],[bxA]⟩,⟨[.st 4],[bxB]⟩,false,[(1,⟨[(0,true),(1,true),(2,true),(3,false),(4,true),(5,true),(6,true),(7,true),(8,true),(9,false),(10,true),(11,true),(12,true),(13,false),(14,false),(15,true),(16,true)],[],[0,1,3,7,15,31,63,127,255,511,63,1087,3135,7231,15423,32767,65535],false⟩),(3,⟨[(0,true),(1,true),(2,true),(3,false),(4,true),(5,true),(6,true),(7,false),(8,false),(9,false)],[10],[0,1,3,7,0,16,48,112,255,511,1023],false⟩)],[]⟩
noncomputable def Tryz.m32.E : Env En.Dop.D4 := envOf Tryz.prog 32 Tryz.tb [Tryz.m56.c] Tryz.m32.p
theorem Tryz.m32.ok : plnOk En.Dop.D4 Tryz.prog 32 Tryz.m32.p = true := by kernel_rfl
noncomputable def Tryz.m32.c : Ctr En.Dop.D4 := ⟨32,Tryz.m32.p.bn,Tryz.m32.p.sp,Tryz.m32.p.rs,Tryz.m32.p.flat,.opt (Tryz.m32.E.run 3000 Tryz.m32.p.sp)⟩
theorem Tryz.m32.holds : Tryz.m32.c.Holds Tryz.prog := fun_ctr 3000 Tryz.tbOk (hct_cons Tryz.m56.holds hct_nil) Tryz.m32.ok
noncomputable def Tryz.m32 (c0 : List Dop.Tok) (c1 : Int) (c2 : List Dop.Nde) (c3 : List Dop.Typ) (c4 c5 c6 c7 : Int) : Option (Spec.D En.Dop.D4 ⟨[.st 4],[bxB]⟩) := Tryz.m32.E.run 3000 Tryz.m32.p.sp (((),()),((c0,c1,c2,c3,c4,c5,c6,c7,()),()))
theorem Tryz.m32_eq (c0 : List Dop.Tok) (c1 : Int) (c2 : List Dop.Nde) (c3 : List Dop.Typ) (c4 c5 c6 c7 : Int) : m32 c0 c1 c2 c3 c4 c5 c6 c7 =
 if (!decide (c6 = (0 : Int))) = true then
  (m56 c0 c1 c2 c3 c4 c5 c6 c7).bind fun y3 =>
 some ((Dop.Tok.mk (0 : Int) (@List.nil UInt8) (0 : Int) y3.1.1,()),((y3.2.1.1,(y3.2.1.2.1,(y3.2.1.2.2.1,(y3.2.1.2.2.2.1,(y3.2.1.2.2.2.2.1,(y3.2.1.2.2.2.2.2.1,(y3.2.1.2.2.2.2.2.2.1,(y3.2.1.2.2.2.2.2.2.2.1,())))))))),()))
 else
 if (decide (I c0.length ≤ c1)) = true then
  (m56 c0 c1 c2 c3 c4 c5 c6 c7).bind fun y4 =>
 some ((Dop.Tok.mk (0 : Int) (@List.nil UInt8) (0 : Int) y4.1.1,()),((y4.2.1.1,(y4.2.1.2.1,(y4.2.1.2.2.1,(y4.2.1.2.2.2.1,(y4.2.1.2.2.2.2.1,(y4.2.1.2.2.2.2.2.1,(y4.2.1.2.2.2.2.2.2.1,(y4.2.1.2.2.2.2.2.2.2.1,())))))))),()))
 else
 if (decide ((0 : Int) ≤ c1 ∧ c1 < I c0.length)) = true then
 some ((@List.getD Dop.Tok c0 c1.toNat Dop.d4,()),((c0,(c1,(c2,(c3,(c4,(c5,(c6,(c7,())))))))),()))
 else none := by kernel_rfl
def Tryz.m58.p : Pln := ⟨[],1,⟨[.al 0 0,.fd .str],[bxA]⟩,⟨[.fd .bool],[bxB]⟩,false,[],[]⟩
noncomputable def Tryz.m58.E : Env En.Dop.D4 := envOf Tryz.prog 58 Tryz.tb [Tryz.m32.c] Tryz.m58.p
theorem Tryz.m58.ok : plnOk En.Dop.D4 Tryz.prog 58 Tryz.m58.p = true := by kernel_rfl
noncomputable def Tryz.m58.c : Ctr En.Dop.D4 := ⟨58,Tryz.m58.p.bn,Tryz.m58.p.sp,Tryz.m58.p.rs,Tryz.m58.p.flat,.opt (Tryz.m58.E.run 3000 Tryz.m58.p.sp)⟩
theorem Tryz.m58.holds : Tryz.m58.c.Holds Tryz.prog := fun_ctr 3000 Tryz.tbOk (hct_cons Tryz.m32.holds hct_nil) Tryz.m58.ok
noncomputable def Tryz.m58 (s : List UInt8) (c0 : List Dop.Tok) (c1 : Int) (c2 : List Dop.Nde) (c3 : List Dop.Typ) (c4 c5 c6 c7 : Int) : Option (Spec.D En.Dop.D4 ⟨[.fd .bool],[bxB]⟩) := Tryz.m58.E.run 3000 Tryz.m58.p.sp (((),s,()),((c0,c1,c2,c3,c4,c5,c6,c7,()),()))
theorem Tryz.m58_eq (s : List UInt8) (c0 : List Dop.Tok) (c1 : Int) (c2 : List Dop.Nde) (c3 : List Dop.Typ) (c4 c5 c6 c7 : Int) : m58 s c0 c1 c2 c3 c4 c5 c6 c7 =
 (m32 c0 c1 c2 c3 c4 c5 c6 c7).bind fun y2 =>
 if (decide (y2.1.1.kind = (4 : Int))) = true then
 some ((decide (y2.1.1.text = s),()),((y2.2.1.1,(y2.2.1.2.1,(y2.2.1.2.2.1,(y2.2.1.2.2.2.1,(y2.2.1.2.2.2.2.1,(y2.2.1.2.2.2.2.2.1,(y2.2.1.2.2.2.2.2.2.1,(y2.2.1.2.2.2.2.2.2.2.1,())))))))),()))
 else
 if (decide (y2.1.1.kind = (2 : Int))) = true then
 some ((decide (y2.1.1.text = s),()),((y2.2.1.1,(y2.2.1.2.1,(y2.2.1.2.2.1,(y2.2.1.2.2.2.1,(y2.2.1.2.2.2.2.1,(y2.2.1.2.2.2.2.2.1,(y2.2.1.2.2.2.2.2.2.1,(y2.2.1.2.2.2.2.2.2.2.1,())))))))),()))
 else
 some ((false,()),((y2.2.1.1,(y2.2.1.2.1,(y2.2.1.2.2.1,(y2.2.1.2.2.2.1,(y2.2.1.2.2.2.2.1,(y2.2.1.2.2.2.2.2.1,(y2.2.1.2.2.2.2.2.2.1,(y2.2.1.2.2.2.2.2.2.2.1,())))))))),())) := by kernel_rfl
def Tryz.m61.p : Pln := ⟨[],1,⟨[.al 0 0,.fd .str],[bxA]⟩,⟨[.fd .bool],[bxB]⟩,false,[],[]⟩
noncomputable def Tryz.m61.E : Env En.Dop.D4 := envOf Tryz.prog 61 Tryz.tb [Tryz.m58.c] Tryz.m61.p
theorem Tryz.m61.ok : plnOk En.Dop.D4 Tryz.prog 61 Tryz.m61.p = true := by kernel_rfl
noncomputable def Tryz.m61.c : Ctr En.Dop.D4 := ⟨61,Tryz.m61.p.bn,Tryz.m61.p.sp,Tryz.m61.p.rs,Tryz.m61.p.flat,.opt (Tryz.m61.E.run 3000 Tryz.m61.p.sp)⟩
theorem Tryz.m61.holds : Tryz.m61.c.Holds Tryz.prog := fun_ctr 3000 Tryz.tbOk (hct_cons Tryz.m58.holds hct_nil) Tryz.m61.ok
noncomputable def Tryz.m61 (s : List UInt8) (c0 : List Dop.Tok) (c1 : Int) (c2 : List Dop.Nde) (c3 : List Dop.Typ) (c4 c5 c6 c7 : Int) : Option (Spec.D En.Dop.D4 ⟨[.fd .bool],[bxB]⟩) := Tryz.m61.E.run 3000 Tryz.m61.p.sp (((),s,()),((c0,c1,c2,c3,c4,c5,c6,c7,()),()))
theorem Tryz.m61_eq (s : List UInt8) (c0 : List Dop.Tok) (c1 : Int) (c2 : List Dop.Nde) (c3 : List Dop.Typ) (c4 c5 c6 c7 : Int) : m61 s c0 c1 c2 c3 c4 c5 c6 c7 =
 (m58 (s) c0 c1 c2 c3 c4 c5 c6 c7).bind fun y2 =>
 if (!y2.1.1) = true then
 some ((false,()),((y2.2.1.1,(y2.2.1.2.1,(y2.2.1.2.2.1,(y2.2.1.2.2.2.1,(y2.2.1.2.2.2.2.1,(y2.2.1.2.2.2.2.2.1,(y2.2.1.2.2.2.2.2.2.1,(y2.2.1.2.2.2.2.2.2.2.1,())))))))),()))
 else
 if (inR (y2.2.1.2.1 + (1 : Int))) = true then
 some ((true,()),((y2.2.1.1,(y2.2.1.2.1 + (1 : Int),(y2.2.1.2.2.1,(y2.2.1.2.2.2.1,(y2.2.1.2.2.2.2.1,(y2.2.1.2.2.2.2.2.1,(y2.2.1.2.2.2.2.2.2.1,(y2.2.1.2.2.2.2.2.2.2.1,())))))))),()))
 else none := by kernel_rfl
def Tryz.m81.p : Pln := ⟨[],1,⟨[.al 0 0,.fd (.int .i64)],[bxA]⟩,⟨[],[bxB]⟩,false,[],[]⟩
noncomputable def Tryz.m81.E : Env En.Dop.D4 := envOf Tryz.prog 81 Tryz.tb [Tryz.m32.c] Tryz.m81.p
theorem Tryz.m81.ok : plnOk En.Dop.D4 Tryz.prog 81 Tryz.m81.p = true := by kernel_rfl
noncomputable def Tryz.m81.c : Ctr En.Dop.D4 := ⟨81,Tryz.m81.p.bn,Tryz.m81.p.sp,Tryz.m81.p.rs,Tryz.m81.p.flat,.opt (Tryz.m81.E.run 3000 Tryz.m81.p.sp)⟩
theorem Tryz.m81.holds : Tryz.m81.c.Holds Tryz.prog := fun_ctr 3000 Tryz.tbOk (hct_cons Tryz.m32.holds hct_nil) Tryz.m81.ok
noncomputable def Tryz.m81 (e : Int) (c0 : List Dop.Tok) (c1 : Int) (c2 : List Dop.Nde) (c3 : List Dop.Typ) (c4 c5 c6 c7 : Int) : Option (Spec.D En.Dop.D4 ⟨[],[bxB]⟩) := Tryz.m81.E.run 3000 Tryz.m81.p.sp (((),e,()),((c0,c1,c2,c3,c4,c5,c6,c7,()),()))
theorem Tryz.m81_eq (e : Int) (c0 : List Dop.Tok) (c1 : Int) (c2 : List Dop.Nde) (c3 : List Dop.Typ) (c4 c5 c6 c7 : Int) : m81 e c0 c1 c2 c3 c4 c5 c6 c7 =
 if (decide (c6 = (0 : Int))) = true then
  (m32 c0 c1 c2 c3 c4 c5 c6 c7).bind fun y3 =>
 some ((),((y3.2.1.1,(y3.2.1.2.1,(y3.2.1.2.2.1,(y3.2.1.2.2.2.1,(y3.2.1.2.2.2.2.1,(y3.2.1.2.2.2.2.2.1,(e,(y3.1.1.at_,())))))))),()))
 else
 some ((),((c0,(c1,(c2,(c3,(c4,(c5,(c6,(c7,())))))))),())) := by kernel_rfl
def Tryz.m59.p : Pln := ⟨[],1,⟨[.al 0 0,.fd .str],[bxA]⟩,⟨[],[bxB]⟩,false,[],[]⟩
noncomputable def Tryz.m59.E : Env En.Dop.D4 := envOf Tryz.prog 59 Tryz.tb [Tryz.m61.c,Tryz.m81.c] Tryz.m59.p
theorem Tryz.m59.ok : plnOk En.Dop.D4 Tryz.prog 59 Tryz.m59.p = true := by kernel_rfl
noncomputable def Tryz.m59.c : Ctr En.Dop.D4 := ⟨59,Tryz.m59.p.bn,Tryz.m59.p.sp,Tryz.m59.p.rs,Tryz.m59.p.flat,.opt (Tryz.m59.E.run 3000 Tryz.m59.p.sp)⟩
theorem Tryz.m59.holds : Tryz.m59.c.Holds Tryz.prog := fun_ctr 3000 Tryz.tbOk (hct_cons Tryz.m61.holds (hct_cons Tryz.m81.holds hct_nil)) Tryz.m59.ok
noncomputable def Tryz.m59 (s : List UInt8) (c0 : List Dop.Tok) (c1 : Int) (c2 : List Dop.Nde) (c3 : List Dop.Typ) (c4 c5 c6 c7 : Int) : Option (Spec.D En.Dop.D4 ⟨[],[bxB]⟩) := Tryz.m59.E.run 3000 Tryz.m59.p.sp (((),s,()),((c0,c1,c2,c3,c4,c5,c6,c7,()),()))
theorem Tryz.m59_eq (s : List UInt8) (c0 : List Dop.Tok) (c1 : Int) (c2 : List Dop.Nde) (c3 : List Dop.Typ) (c4 c5 c6 c7 : Int) : m59 s c0 c1 c2 c3 c4 c5 c6 c7 =
 (m61 (s) c0 c1 c2 c3 c4 c5 c6 c7).bind fun y2 =>
 if (!y2.1.1) = true then
  (m81 ((5 : Int)) y2.2.1.1 y2.2.1.2.1 y2.2.1.2.2.1 y2.2.1.2.2.2.1 y2.2.1.2.2.2.2.1 y2.2.1.2.2.2.2.2.1 y2.2.1.2.2.2.2.2.2.1 y2.2.1.2.2.2.2.2.2.2.1).bind fun y4 =>
 some ((),((y4.2.1.1,(y4.2.1.2.1,(y4.2.1.2.2.1,(y4.2.1.2.2.2.1,(y4.2.1.2.2.2.2.1,(y4.2.1.2.2.2.2.2.1,(y4.2.1.2.2.2.2.2.2.1,(y4.2.1.2.2.2.2.2.2.2.1,())))))))),()))
 else
 some ((),((y2.2.1.1,(y2.2.1.2.1,(y2.2.1.2.2.1,(y2.2.1.2.2.2.1,(y2.2.1.2.2.2.2.1,(y2.2.1.2.2.2.2.2.1,(y2.2.1.2.2.2.2.2.2.1,(y2.2.1.2.2.2.2.2.2.2.1,())))))))),())) := by kernel_rfl
def Tryz.m60.p : Pln := ⟨[],1,⟨[.al 0 0,.fd (.int .i64)],[bxA]⟩,⟨[.st 4],[bxB]⟩,false,[],[]⟩
noncomputable def Tryz.m60.E : Env En.Dop.D4 := envOf Tryz.prog 60 Tryz.tb [Tryz.m32.c,Tryz.m81.c] Tryz.m60.p
theorem Tryz.m60.ok : plnOk En.Dop.D4 Tryz.prog 60 Tryz.m60.p = true := by kernel_rfl
noncomputable def Tryz.m60.c : Ctr En.Dop.D4 := ⟨60,Tryz.m60.p.bn,Tryz.m60.p.sp,Tryz.m60.p.rs,Tryz.m60.p.flat,.opt (Tryz.m60.E.run 3000 Tryz.m60.p.sp)⟩
theorem Tryz.m60.holds : Tryz.m60.c.Holds Tryz.prog := fun_ctr 3000 Tryz.tbOk (hct_cons Tryz.m32.holds (hct_cons Tryz.m81.holds hct_nil)) Tryz.m60.ok
noncomputable def Tryz.m60 (k : Int) (c0 : List Dop.Tok) (c1 : Int) (c2 : List Dop.Nde) (c3 : List Dop.Typ) (c4 c5 c6 c7 : Int) : Option (Spec.D En.Dop.D4 ⟨[.st 4],[bxB]⟩) := Tryz.m60.E.run 3000 Tryz.m60.p.sp (((),k,()),((c0,c1,c2,c3,c4,c5,c6,c7,()),()))
theorem Tryz.m60_eq (k : Int) (c0 : List Dop.Tok) (c1 : Int) (c2 : List Dop.Nde) (c3 : List Dop.Typ) (c4 c5 c6 c7 : Int) : m60 k c0 c1 c2 c3 c4 c5 c6 c7 =
 (m32 c0 c1 c2 c3 c4 c5 c6 c7).bind fun y2 =>
 if (!decide (y2.1.1.kind = k)) = true then
  (m81 ((5 : Int)) y2.2.1.1 y2.2.1.2.1 y2.2.1.2.2.1 y2.2.1.2.2.2.1 y2.2.1.2.2.2.2.1 y2.2.1.2.2.2.2.2.1 y2.2.1.2.2.2.2.2.2.1 y2.2.1.2.2.2.2.2.2.2.1).bind fun y4 =>
 some ((Dop.Tok.mk (0 : Int) (@List.nil UInt8) (0 : Int) y2.1.1.at_,()),((y4.2.1.1,(y4.2.1.2.1,(y4.2.1.2.2.1,(y4.2.1.2.2.2.1,(y4.2.1.2.2.2.2.1,(y4.2.1.2.2.2.2.2.1,(y4.2.1.2.2.2.2.2.2.1,(y4.2.1.2.2.2.2.2.2.2.1,())))))))),()))
 else
 if (!decide (y2.2.1.2.2.2.2.2.2.1 = (0 : Int))) = true then
   (m81 ((5 : Int)) y2.2.1.1 y2.2.1.2.1 y2.2.1.2.2.1 y2.2.1.2.2.2.1 y2.2.1.2.2.2.2.1 y2.2.1.2.2.2.2.2.1 y2.2.1.2.2.2.2.2.2.1 y2.2.1.2.2.2.2.2.2.2.1).bind fun y5 =>
 some ((Dop.Tok.mk (0 : Int) (@List.nil UInt8) (0 : Int) y2.1.1.at_,()),((y5.2.1.1,(y5.2.1.2.1,(y5.2.1.2.2.1,(y5.2.1.2.2.2.1,(y5.2.1.2.2.2.2.1,(y5.2.1.2.2.2.2.2.1,(y5.2.1.2.2.2.2.2.2.1,(y5.2.1.2.2.2.2.2.2.2.1,())))))))),()))
 else
 if (inR (y2.2.1.2.1 + (1 : Int))) = true then
 some ((y2.1.1,()),((y2.2.1.1,(y2.2.1.2.1 + (1 : Int),(y2.2.1.2.2.1,(y2.2.1.2.2.2.1,(y2.2.1.2.2.2.2.1,(y2.2.1.2.2.2.2.2.1,(y2.2.1.2.2.2.2.2.2.1,(y2.2.1.2.2.2.2.2.2.2.1,())))))))),()))
 else none := by kernel_rfl
def Tryz.m57.p : Pln := ⟨[],0,⟨[.fd (.int .i64),.fd (.int .i64)],[]⟩,⟨[.st 5],[]⟩,true,[],[]⟩
noncomputable def Tryz.m57.E : Env En.Dop.D4 := envOf Tryz.prog 57 Tryz.tb [] Tryz.m57.p
theorem Tryz.m57.ok : plnOk En.Dop.D4 Tryz.prog 57 Tryz.m57.p = true := by kernel_rfl
noncomputable def Tryz.m57.c : Ctr En.Dop.D4 := ⟨57,Tryz.m57.p.bn,Tryz.m57.p.sp,Tryz.m57.p.rs,Tryz.m57.p.flat,.opt (Tryz.m57.E.run 3000 Tryz.m57.p.sp)⟩
theorem Tryz.m57.holds : Tryz.m57.c.Holds Tryz.prog := fun_ctr 3000 Tryz.tbOk hct_nil Tryz.m57.ok
noncomputable def Tryz.m57 (kind : Int) (at_ : Int) : Option (Spec.D En.Dop.D4 ⟨[.st 5],[]⟩) := Tryz.m57.E.run 3000 Tryz.m57.p.sp ((kind,at_,()),())
theorem Tryz.m57_eq (kind : Int) (at_ : Int) : m57 kind at_ =
 some ((Dop.Nde.mk kind (-1 : Int) (-1 : Int) (-1 : Int) (-1 : Int) (@List.nil UInt8) (0 : Int) (0 : Int) at_,()),()) := by kernel_rfl
def Tryz.m101.p : Pln := ⟨[(2,⟨[[0,0,0,0,1,0,1],[0,1,0,0,1,0,1],[2,0,0,1,0,1],[1,0],[0,1,1]],[0,3,7,8],1,⟨[.fd (.sl 6),.al 0 0,.fd (.int .i64),.fd (.int .i64)],[⟨0,65,[.st 6],false⟩]⟩⟩)],0,⟨[.fd (.sl 6),.st 6],[]⟩,⟨[.fd (.int .i64)],[]⟩,true,[(4,⟨[(0,false),(1,true),(2,true),(3,false),(4,false),(5,true)],[],[0,0,0,6,14,31],false⟩)],[]⟩
noncomputable def Tryz.m101.E : Env En.Dop.D4 := envOf Tryz.prog 101 Tryz.tb [] Tryz.m101.p
theorem Tryz.m101.ok : plnOk En.Dop.D4 Tryz.prog 101 Tryz.m101.p = true := by kernel_rfl
noncomputable def Tryz.m101.c : Ctr En.Dop.D4 := ⟨101,Tryz.m101.p.bn,Tryz.m101.p.sp,Tryz.m101.p.rs,Tryz.m101.p.flat,.opt (Tryz.m101.E.run 3000 Tryz.m101.p.sp)⟩
theorem Tryz.m101.holds : Tryz.m101.c.Holds Tryz.prog := fun_ctr 3000 Tryz.tbOk hct_nil Tryz.m101.ok
noncomputable def Tryz.m101 (s : List (Dop.Typ)) (v : Dop.Typ) : Option (Spec.D En.Dop.D4 ⟨[.fd (.int .i64)],[]⟩) := Tryz.m101.E.run 3000 Tryz.m101.p.sp ((s,v,()),())
noncomputable def Tryz.m101_2 (s : List (Dop.Typ)) (t7 : Int) (t8 : Int) (b0 : Dop.Typ) : Option (Spec.D En.Dop.D4 ⟨[.fd (.int .i64)],[]⟩) := Tryz.m101.E.cut 3000 2 ((s,(),t7,t8,()),((b0,()),()))
theorem Tryz.m101_eq (s : List (Dop.Typ)) (v : Dop.Typ) : m101 s v =
 m101_2 (s) (I s.length) ((0 : Int)) (v) := by kernel_rfl
theorem Tryz.m101_2_eq (s : List (Dop.Typ)) (t7 : Int) (t8 : Int) (b0 : Dop.Typ) : m101_2 s t7 t8 b0 =
 if (decide (t8 < t7)) = true then
 if (decide ((0 : Int) ≤ t8 ∧ t8 < I s.length)) = true then
 if (eqSs (List.take (4 : Nat) (List.drop (0 : Nat) (SV.v (Value.int IntKind.i64 b0.kind) :: SV.v (Value.int IntKind.i64 b0.elem) :: SV.v (Value.int IntKind.i64 b0.n) :: SV.v (Value.string (ByteArray.mk (Array.mk b0.name))) :: @List.nil SV ++ @List.nil SV))) (List.take (4 : Nat) (List.drop (0 : Nat) (SV.v (Value.int IntKind.i64 (@List.getD Dop.Typ s t8.toNat Dop.d6).kind) :: SV.v (Value.int IntKind.i64 (@List.getD Dop.Typ s t8.toNat Dop.d6).elem) :: SV.v (Value.int IntKind.i64 (@List.getD Dop.Typ s t8.toNat Dop.d6).n) :: SV.v (Value.string (ByteArray.mk (Array.mk (@List.getD Dop.Typ s t8.toNat Dop.d6).name))) :: @List.nil SV)))) = true then
 some ((t8,()),())
 else
 if (inR (t8 + (1 : Int))) = true then
  m101_2 (s) (t7) (t8 + (1 : Int)) (b0)
 else none
 else none
 else
 some (((-1 : Int),()),()) := Env.cut_eq' (E := Tryz.m101.E) (f0 := 3000) (c := 2) (q := ⟨[[0,0,0,0,1,0,1],[0,1,0,0,1,0,1],[2,0,0,1,0,1],[1,0],[0,1,1]],[0,3,7,8],1,⟨[.fd (.sl 6),.al 0 0,.fd (.int .i64),.fd (.int .i64)],[⟨0,65,[.st 6],false⟩]⟩⟩) (by kernel_rfl) ((s,(),t7,t8,()),((b0,()),())) (by kernel_rfl) (by kernel_rfl)
def Tryz.m83.p : Pln := ⟨[],1,⟨[.al 0 0,.st 6],[bxA]⟩,⟨[.fd (.int .i64)],[bxB]⟩,false,[(1,⟨[(0,true),(1,true),(2,true),(3,true),(4,false),(5,false),(6,false),(7,true)],[],[0,1,3,7,15,0,63,127],true⟩),(7,⟨[(0,true),(1,true),(2,true),(3,true),(4,true),(5,false),(6,false),(7,false)],[8,9,10,11,12],[0,0,2,6,14,30,0,64,254,511,1023,2047,4095],false⟩)],[]⟩
noncomputable def Tryz.m83.E : Env En.Dop.D4 := envOf Tryz.prog 83 Tryz.tb [Tryz.m101.c,Tryz.m81.c] Tryz.m83.p
theorem Tryz.m83.ok : plnOk En.Dop.D4 Tryz.prog 83 Tryz.m83.p = true := by kernel_rfl
noncomputable def Tryz.m83.c : Ctr En.Dop.D4 := ⟨83,Tryz.m83.p.bn,Tryz.m83.p.sp,Tryz.m83.p.rs,Tryz.m83.p.flat,.opt (Tryz.m83.E.run 3000 Tryz.m83.p.sp)⟩
theorem Tryz.m83.holds : Tryz.m83.c.Holds Tryz.prog := fun_ctr 3000 Tryz.tbOk (hct_cons Tryz.m101.holds (hct_cons Tryz.m81.holds hct_nil)) Tryz.m83.ok
noncomputable def Tryz.m83 (x : Dop.Typ) (c0 : List Dop.Tok) (c1 : Int) (c2 : List Dop.Nde) (c3 : List Dop.Typ) (c4 c5 c6 c7 : Int) : Option (Spec.D En.Dop.D4 ⟨[.fd (.int .i64)],[bxB]⟩) := Tryz.m83.E.run 3000 Tryz.m83.p.sp (((),x,()),((c0,c1,c2,c3,c4,c5,c6,c7,()),()))
theorem Tryz.m83_eq (x : Dop.Typ) (c0 : List Dop.Tok) (c1 : Int) (c2 : List Dop.Nde) (c3 : List Dop.Typ) (c4 c5 c6 c7 : Int) : m83 x c0 c1 c2 c3 c4 c5 c6 c7 =
 (m101 c3 (x)).bind fun y2 =>
 if (decide ((0 : Int) ≤ y2.1.1)) = true then
 some ((y2.1.1,()),((c0,(c1,(c2,(c3,(c4,(c5,(c6,(c7,())))))))),()))
 else
 if (decide (I c3.length = (256 : Int))) = true then
   (m81 ((4 : Int)) c0 c1 c2 c3 c4 c5 c6 c7).bind fun y5 =>
 some (((0 : Int),()),((y5.2.1.1,(y5.2.1.2.1,(y5.2.1.2.2.1,(y5.2.1.2.2.2.1,(y5.2.1.2.2.2.2.1,(y5.2.1.2.2.2.2.2.1,(y5.2.1.2.2.2.2.2.2.1,(y5.2.1.2.2.2.2.2.2.2.1,())))))))),()))
 else
 if (andC none (room (40 : Nat) (c3.length + (x :: @List.nil Dop.Typ).length))) = true then
 if (inR (I (c3 ++ x :: @List.nil Dop.Typ).length - (1 : Int))) = true then
 some ((I (c3 ++ x :: @List.nil Dop.Typ).length - (1 : Int),()),((c0,(c1,(c2,(c3 ++ x :: @List.nil Dop.Typ,(c4,(c5,(c6,(c7,())))))))),()))
 else none
 else none := by kernel_rfl
def Tryz.m82.p : Pln := ⟨[(11,⟨[[0,0,0,0,0,0,1,1,1],[0,1,0,0,0,0,1,1,1],[0,1,0,0,0,1,1,1],[2,0,0,0,1,1,1],[1,1],[0,1,1,1,1]],[0,3],1,⟨[.al 0 0,.fd (.int .i64)],[bxB]⟩⟩)],1,⟨[.al 0 0],[bxA]⟩,⟨[.fd (.int .i64)],[bxB]⟩,false,[],[]⟩
noncomputable def Tryz.m82.E : Env En.Dop.D4 := envOf Tryz.prog 82 Tryz.tb [Tryz.m61.c,Tryz.m59.c,Tryz.m60.c,Tryz.m83.c] Tryz.m82.p
theorem Tryz.m82.ok : plnOk En.Dop.D4 Tryz.prog 82 Tryz.m82.p = true := by kernel_rfl
noncomputable def Tryz.m82.c : Ctr En.Dop.D4 := ⟨82,Tryz.m82.p.bn,Tryz.m82.p.sp,Tryz.m82.p.rs,Tryz.m82.p.flat,.opt (Tryz.m82.E.run 3000 Tryz.m82.p.sp)⟩
theorem Tryz.m82.holds : Tryz.m82.c.Holds Tryz.prog := fun_ctr 3000 Tryz.tbOk (hct_cons Tryz.m61.holds (hct_cons Tryz.m59.holds (hct_cons Tryz.m60.holds (hct_cons Tryz.m83.holds hct_nil)))) Tryz.m82.ok
noncomputable def Tryz.m82 (c0 : List Dop.Tok) (c1 : Int) (c2 : List Dop.Nde) (c3 : List Dop.Typ) (c4 c5 c6 c7 : Int) : Option (Spec.D En.Dop.D4 ⟨[.fd (.int .i64)],[bxB]⟩) := Tryz.m82.E.run 3000 Tryz.m82.p.sp (((),()),((c0,c1,c2,c3,c4,c5,c6,c7,()),()))
noncomputable def Tryz.m82_11 (t : Int) (c0 : List Dop.Tok) (c1 : Int) (c2 : List Dop.Nde) (c3 : List Dop.Typ) (c4 c5 c6 c7 : Int) : Option (Spec.D En.Dop.D4 ⟨[.fd (.int .i64)],[bxB]⟩) := Tryz.m82.E.cut 3000 11 (((),t,()),((c0,c1,c2,c3,c4,c5,c6,c7,()),()))
theorem Tryz.m82_eq (c0 : List Dop.Tok) (c1 : Int) (c2 : List Dop.Nde) (c3 : List Dop.Typ) (c4 c5 c6 c7 : Int) : m82 c0 c1 c2 c3 c4 c5 c6 c7 =
 (m61 ([118,111,105,100] : List UInt8) c0 c1 c2 c3 c4 c5 c6 c7).bind fun y2 =>
 if y2.1.1 = true then
  m82_11 ((0 : Int)) y2.2.1.1 y2.2.1.2.1 y2.2.1.2.2.1 y2.2.1.2.2.2.1 y2.2.1.2.2.2.2.1 y2.2.1.2.2.2.2.2.1 y2.2.1.2.2.2.2.2.2.1 y2.2.1.2.2.2.2.2.2.2.1
 else
  (m61 ([105,110,116] : List UInt8) y2.2.1.1 y2.2.1.2.1 y2.2.1.2.2.1 y2.2.1.2.2.2.1 y2.2.1.2.2.2.2.1 y2.2.1.2.2.2.2.2.1 y2.2.1.2.2.2.2.2.2.1 y2.2.1.2.2.2.2.2.2.2.1).bind fun y4 =>
 if y4.1.1 = true then
   m82_11 ((1 : Int)) y4.2.1.1 y4.2.1.2.1 y4.2.1.2.2.1 y4.2.1.2.2.2.1 y4.2.1.2.2.2.2.1 y4.2.1.2.2.2.2.2.1 y4.2.1.2.2.2.2.2.2.1 y4.2.1.2.2.2.2.2.2.2.1
 else
   (m61 ([117,110,115,105,103,110,101,100] : List UInt8) y4.2.1.1 y4.2.1.2.1 y4.2.1.2.2.1 y4.2.1.2.2.2.1 y4.2.1.2.2.2.2.1 y4.2.1.2.2.2.2.2.1 y4.2.1.2.2.2.2.2.2.1 y4.2.1.2.2.2.2.2.2.2.1).bind fun y6 =>
 if y6.1.1 = true then
    m82_11 ((2 : Int)) y6.2.1.1 y6.2.1.2.1 y6.2.1.2.2.1 y6.2.1.2.2.2.1 y6.2.1.2.2.2.2.1 y6.2.1.2.2.2.2.2.1 y6.2.1.2.2.2.2.2.2.1 y6.2.1.2.2.2.2.2.2.2.1
 else
    (m61 ([99,104,97,114] : List UInt8) y6.2.1.1 y6.2.1.2.1 y6.2.1.2.2.1 y6.2.1.2.2.2.1 y6.2.1.2.2.2.2.1 y6.2.1.2.2.2.2.2.1 y6.2.1.2.2.2.2.2.2.1 y6.2.1.2.2.2.2.2.2.2.1).bind fun y8 =>
 if y8.1.1 = true then
     m82_11 ((3 : Int)) y8.2.1.1 y8.2.1.2.1 y8.2.1.2.2.1 y8.2.1.2.2.2.1 y8.2.1.2.2.2.2.1 y8.2.1.2.2.2.2.2.1 y8.2.1.2.2.2.2.2.2.1 y8.2.1.2.2.2.2.2.2.2.1
 else
     (m59 ([115,116,114,117,99,116] : List UInt8) y8.2.1.1 y8.2.1.2.1 y8.2.1.2.2.1 y8.2.1.2.2.2.1 y8.2.1.2.2.2.2.1 y8.2.1.2.2.2.2.2.1 y8.2.1.2.2.2.2.2.2.1 y8.2.1.2.2.2.2.2.2.2.1).bind fun y10 =>
      (m60 ((1 : Int)) y10.2.1.1 y10.2.1.2.1 y10.2.1.2.2.1 y10.2.1.2.2.2.1 y10.2.1.2.2.2.2.1 y10.2.1.2.2.2.2.2.1 y10.2.1.2.2.2.2.2.2.1 y10.2.1.2.2.2.2.2.2.2.1).bind fun y11 =>
      (m83 (Dop.Typ.mk (6 : Int) (0 : Int) (0 : Int) y11.1.1.text) y11.2.1.1 y11.2.1.2.1 y11.2.1.2.2.1 y11.2.1.2.2.2.1 y11.2.1.2.2.2.2.1 y11.2.1.2.2.2.2.2.1 y11.2.1.2.2.2.2.2.2.1 y11.2.1.2.2.2.2.2.2.2.1).bind fun y12 =>
       m82_11 y12.1.1 y12.2.1.1 y12.2.1.2.1 y12.2.1.2.2.1 y12.2.1.2.2.2.1 y12.2.1.2.2.2.2.1 y12.2.1.2.2.2.2.2.1 y12.2.1.2.2.2.2.2.2.1 y12.2.1.2.2.2.2.2.2.2.1 := by kernel_rfl
theorem Tryz.m82_11_eq (t : Int) (c0 : List Dop.Tok) (c1 : Int) (c2 : List Dop.Nde) (c3 : List Dop.Typ) (c4 c5 c6 c7 : Int) : m82_11 t c0 c1 c2 c3 c4 c5 c6 c7 =
 (m61 ([42] : List UInt8) c0 c1 c2 c3 c4 c5 c6 c7).bind fun y2 =>
 if y2.1.1 = true then
  (m83 (Dop.Typ.mk (4 : Int) t (0 : Int) (@List.nil UInt8)) y2.2.1.1 y2.2.1.2.1 y2.2.1.2.2.1 y2.2.1.2.2.2.1 y2.2.1.2.2.2.2.1 y2.2.1.2.2.2.2.2.1 y2.2.1.2.2.2.2.2.2.1 y2.2.1.2.2.2.2.2.2.2.1).bind fun y4 =>
   m82_11 y4.1.1 y4.2.1.1 y4.2.1.2.1 y4.2.1.2.2.1 y4.2.1.2.2.2.1 y4.2.1.2.2.2.2.1 y4.2.1.2.2.2.2.2.1 y4.2.1.2.2.2.2.2.2.1 y4.2.1.2.2.2.2.2.2.2.1
 else
 some ((t,()),((y2.2.1.1,(y2.2.1.2.1,(y2.2.1.2.2.1,(y2.2.1.2.2.2.1,(y2.2.1.2.2.2.2.1,(y2.2.1.2.2.2.2.2.1,(y2.2.1.2.2.2.2.2.2.1,(y2.2.1.2.2.2.2.2.2.2.1,())))))))),())) := Env.cut_eq' (E := Tryz.m82.E) (f0 := 3000) (c := 11) (q := ⟨[[0,0,0,0,0,0,1,1,1],[0,1,0,0,0,0,1,1,1],[0,1,0,0,0,1,1,1],[2,0,0,0,1,1,1],[1,1],[0,1,1,1,1]],[0,3],1,⟨[.al 0 0,.fd (.int .i64)],[bxB]⟩⟩) (by kernel_rfl) (((),t,()),((c0,c1,c2,c3,c4,c5,c6,c7,()),())) (by kernel_rfl) (by kernel_rfl)
def Tryz.m62.p : Pln := ⟨[],1,⟨[.al 0 0],[bxA]⟩,⟨[.st 5],[bxB]⟩,false,[],[]⟩
noncomputable def Tryz.m62.E : Env En.Dop.D4 := envOf Tryz.prog 62 Tryz.tb [Tryz.m32.c,Tryz.m57.c,Tryz.m82.c,Tryz.m60.c] Tryz.m62.p
theorem Tryz.m62.ok : plnOk En.Dop.D4 Tryz.prog 62 Tryz.m62.p = true := by kernel_rfl
noncomputable def Tryz.m62.c : Ctr En.Dop.D4 := ⟨62,Tryz.m62.p.bn,Tryz.m62.p.sp,Tryz.m62.p.rs,Tryz.m62.p.flat,.opt (Tryz.m62.E.run 3000 Tryz.m62.p.sp)⟩
theorem Tryz.m62.holds : Tryz.m62.c.Holds Tryz.prog := fun_ctr 3000 Tryz.tbOk (hct_cons Tryz.m32.holds (hct_cons Tryz.m57.holds (hct_cons Tryz.m82.holds (hct_cons Tryz.m60.holds hct_nil)))) Tryz.m62.ok
noncomputable def Tryz.m62 (c0 : List Dop.Tok) (c1 : Int) (c2 : List Dop.Nde) (c3 : List Dop.Typ) (c4 c5 c6 c7 : Int) : Option (Spec.D En.Dop.D4 ⟨[.st 5],[bxB]⟩) := Tryz.m62.E.run 3000 Tryz.m62.p.sp (((),()),((c0,c1,c2,c3,c4,c5,c6,c7,()),()))
theorem Tryz.m62_eq (c0 : List Dop.Tok) (c1 : Int) (c2 : List Dop.Nde) (c3 : List Dop.Typ) (c4 c5 c6 c7 : Int) : m62 c0 c1 c2 c3 c4 c5 c6 c7 =
 (m32 c0 c1 c2 c3 c4 c5 c6 c7).bind fun y2 =>
  (m57 ((51 : Int)) (y2.1.1.at_)).bind fun y3 =>
  (m82 y2.2.1.1 y2.2.1.2.1 y2.2.1.2.2.1 y2.2.1.2.2.2.1 y2.2.1.2.2.2.2.1 y2.2.1.2.2.2.2.2.1 y2.2.1.2.2.2.2.2.2.1 y2.2.1.2.2.2.2.2.2.2.1).bind fun y4 =>
   (m60 ((1 : Int)) y4.2.1.1 y4.2.1.2.1 y4.2.1.2.2.1 y4.2.1.2.2.2.1 y4.2.1.2.2.2.2.1 y4.2.1.2.2.2.2.2.1 y4.2.1.2.2.2.2.2.2.1 y4.2.1.2.2.2.2.2.2.2.1).bind fun y5 =>
 some ((Dop.Nde.mk y3.1.1.kind y3.1.1.a y3.1.1.b y3.1.1.c y3.1.1.d y5.1.1.text y3.1.1.n y4.1.1 y3.1.1.at_,()),((y5.2.1.1,(y5.2.1.2.1,(y5.2.1.2.2.1,(y5.2.1.2.2.2.1,(y5.2.1.2.2.2.2.1,(y5.2.1.2.2.2.2.2.1,(y5.2.1.2.2.2.2.2.2.1,(y5.2.1.2.2.2.2.2.2.2.1,())))))))),())) := by kernel_rfl
def Tryz.m63.p : Pln := ⟨[],1,⟨[.al 0 0,.fd (.int .i64)],[bxA]⟩,⟨[.fd (.int .i64)],[bxB]⟩,false,[],[]⟩
noncomputable def Tryz.m63.E : Env En.Dop.D4 := envOf Tryz.prog 63 Tryz.tb [Tryz.m61.c,Tryz.m60.c,Tryz.m59.c,Tryz.m83.c] Tryz.m63.p
theorem Tryz.m63.ok : plnOk En.Dop.D4 Tryz.prog 63 Tryz.m63.p = true := by kernel_rfl
noncomputable def Tryz.m63.c : Ctr En.Dop.D4 := ⟨63,Tryz.m63.p.bn,Tryz.m63.p.sp,Tryz.m63.p.rs,Tryz.m63.p.flat,.opt (Tryz.m63.E.run 3000 Tryz.m63.p.sp)⟩
theorem Tryz.m63.holds : Tryz.m63.c.Holds Tryz.prog := fun_ctr 3000 Tryz.tbOk (hct_cons Tryz.m61.holds (hct_cons Tryz.m60.holds (hct_cons Tryz.m59.holds (hct_cons Tryz.m83.holds hct_nil)))) Tryz.m63.ok
noncomputable def Tryz.m63 (t : Int) (c0 : List Dop.Tok) (c1 : Int) (c2 : List Dop.Nde) (c3 : List Dop.Typ) (c4 c5 c6 c7 : Int) : Option (Spec.D En.Dop.D4 ⟨[.fd (.int .i64)],[bxB]⟩) := Tryz.m63.E.run 3000 Tryz.m63.p.sp (((),t,()),((c0,c1,c2,c3,c4,c5,c6,c7,()),()))
theorem Tryz.m63_eq (t : Int) (c0 : List Dop.Tok) (c1 : Int) (c2 : List Dop.Nde) (c3 : List Dop.Typ) (c4 c5 c6 c7 : Int) : m63 t c0 c1 c2 c3 c4 c5 c6 c7 =
 (m61 ([91] : List UInt8) c0 c1 c2 c3 c4 c5 c6 c7).bind fun y2 =>
 if (!y2.1.1) = true then
 some ((t,()),((y2.2.1.1,(y2.2.1.2.1,(y2.2.1.2.2.1,(y2.2.1.2.2.2.1,(y2.2.1.2.2.2.2.1,(y2.2.1.2.2.2.2.2.1,(y2.2.1.2.2.2.2.2.2.1,(y2.2.1.2.2.2.2.2.2.2.1,())))))))),()))
 else
  (m60 ((3 : Int)) y2.2.1.1 y2.2.1.2.1 y2.2.1.2.2.1 y2.2.1.2.2.2.1 y2.2.1.2.2.2.2.1 y2.2.1.2.2.2.2.2.1 y2.2.1.2.2.2.2.2.2.1 y2.2.1.2.2.2.2.2.2.2.1).bind fun y4 =>
   (m59 ([93] : List UInt8) y4.2.1.1 y4.2.1.2.1 y4.2.1.2.2.1 y4.2.1.2.2.2.1 y4.2.1.2.2.2.2.1 y4.2.1.2.2.2.2.2.1 y4.2.1.2.2.2.2.2.2.1 y4.2.1.2.2.2.2.2.2.2.1).bind fun y5 =>
   (m83 (Dop.Typ.mk (5 : Int) t y4.1.1.n (@List.nil UInt8)) y5.2.1.1 y5.2.1.2.1 y5.2.1.2.2.1 y5.2.1.2.2.2.1 y5.2.1.2.2.2.2.1 y5.2.1.2.2.2.2.2.1 y5.2.1.2.2.2.2.2.2.1 y5.2.1.2.2.2.2.2.2.2.1).bind fun y6 =>
 some ((y6.1.1,()),((y6.2.1.1,(y6.2.1.2.1,(y6.2.1.2.2.1,(y6.2.1.2.2.2.1,(y6.2.1.2.2.2.2.1,(y6.2.1.2.2.2.2.2.1,(y6.2.1.2.2.2.2.2.2.1,(y6.2.1.2.2.2.2.2.2.2.1,())))))))),())) := by kernel_rfl
def Tryz.m64.p : Pln := ⟨[],1,⟨[.al 0 0,.st 5],[bxA]⟩,⟨[.fd (.int .i64)],[bxB]⟩,false,[(5,⟨[(0,true),(1,true),(2,true),(3,true),(4,true),(5,false),(6,false),(7,false)],[8,9,10,11,12],[0,0,2,6,14,30,0,64,254,511,1023,2047,4095],false⟩)],[]⟩
noncomputable def Tryz.m64.E : Env En.Dop.D4 := envOf Tryz.prog 64 Tryz.tb [Tryz.m81.c] Tryz.m64.p
theorem Tryz.m64.ok : plnOk En.Dop.D4 Tryz.prog 64 Tryz.m64.p = true := by kernel_rfl
noncomputable def Tryz.m64.c : Ctr En.Dop.D4 := ⟨64,Tryz.m64.p.bn,Tryz.m64.p.sp,Tryz.m64.p.rs,Tryz.m64.p.flat,.opt (Tryz.m64.E.run 3000 Tryz.m64.p.sp)⟩
theorem Tryz.m64.holds : Tryz.m64.c.Holds Tryz.prog := fun_ctr 3000 Tryz.tbOk (hct_cons Tryz.m81.holds hct_nil) Tryz.m64.ok
noncomputable def Tryz.m64 (n : Dop.Nde) (c0 : List Dop.Tok) (c1 : Int) (c2 : List Dop.Nde) (c3 : List Dop.Typ) (c4 c5 c6 c7 : Int) : Option (Spec.D En.Dop.D4 ⟨[.fd (.int .i64)],[bxB]⟩) := Tryz.m64.E.run 3000 Tryz.m64.p.sp (((),n,()),((c0,c1,c2,c3,c4,c5,c6,c7,()),()))
theorem Tryz.m64_eq (n : Dop.Nde) (c0 : List Dop.Tok) (c1 : Int) (c2 : List Dop.Nde) (c3 : List Dop.Typ) (c4 c5 c6 c7 : Int) : m64 n c0 c1 c2 c3 c4 c5 c6 c7 =
 if (decide (I c2.length = (8192 : Int))) = true then
  (m81 ((4 : Int)) c0 c1 c2 c3 c4 c5 c6 c7).bind fun y3 =>
 if (!decide (y3.2.1.2.2.2.2.2.2.1 = (0 : Int))) = true then
 some (((-1 : Int),()),((y3.2.1.1,(y3.2.1.2.1,(y3.2.1.2.2.1,(y3.2.1.2.2.2.1,(y3.2.1.2.2.2.2.1,(y3.2.1.2.2.2.2.2.1,(y3.2.1.2.2.2.2.2.2.1,(y3.2.1.2.2.2.2.2.2.2.1,())))))))),()))
 else
 if (andC none (room (80 : Nat) (y3.2.1.2.2.1.length + (n :: @List.nil Dop.Nde).length))) = true then
 if (inR (I (y3.2.1.2.2.1 ++ n :: @List.nil Dop.Nde).length - (1 : Int))) = true then
 some ((I (y3.2.1.2.2.1 ++ n :: @List.nil Dop.Nde).length - (1 : Int),()),((y3.2.1.1,(y3.2.1.2.1,(y3.2.1.2.2.1 ++ n :: @List.nil Dop.Nde,(y3.2.1.2.2.2.1,(y3.2.1.2.2.2.2.1,(y3.2.1.2.2.2.2.2.1,(y3.2.1.2.2.2.2.2.2.1,(y3.2.1.2.2.2.2.2.2.2.1,())))))))),()))
 else none
 else none
 else
 if (!decide (c6 = (0 : Int))) = true then
 some (((-1 : Int),()),((c0,(c1,(c2,(c3,(c4,(c5,(c6,(c7,())))))))),()))
 else
 if (andC none (room (80 : Nat) (c2.length + (n :: @List.nil Dop.Nde).length))) = true then
 if (inR (I (c2 ++ n :: @List.nil Dop.Nde).length - (1 : Int))) = true then
 some ((I (c2 ++ n :: @List.nil Dop.Nde).length - (1 : Int),()),((c0,(c1,(c2 ++ n :: @List.nil Dop.Nde,(c3,(c4,(c5,(c6,(c7,())))))))),()))
 else none
 else none := by kernel_rfl
def Tryz.m67.p : Pln := ⟨[],1,⟨[.al 0 0,.fd (.int .i64)],[bxA]⟩,⟨[.fd (.int .i64)],[bxB]⟩,false,[],[]⟩
noncomputable def Tryz.m67.E : Env En.Dop.D4 := envOf Tryz.prog 67 Tryz.tb [] Tryz.m67.p
theorem Tryz.m67.ok : plnOk En.Dop.D4 Tryz.prog 67 Tryz.m67.p = true := by kernel_rfl
noncomputable def Tryz.m67.c : Ctr En.Dop.D4 := ⟨67,Tryz.m67.p.bn,Tryz.m67.p.sp,Tryz.m67.p.rs,Tryz.m67.p.flat,.opt (Tryz.m67.E.run 3000 Tryz.m67.p.sp)⟩
theorem Tryz.m67.holds : Tryz.m67.c.Holds Tryz.prog := fun_ctr 3000 Tryz.tbOk hct_nil Tryz.m67.ok
noncomputable def Tryz.m67 (n : Int) (c0 : List Dop.Tok) (c1 : Int) (c2 : List Dop.Nde) (c3 : List Dop.Typ) (c4 c5 c6 c7 : Int) : Option (Spec.D En.Dop.D4 ⟨[.fd (.int .i64)],[bxB]⟩) := Tryz.m67.E.run 3000 Tryz.m67.p.sp (((),n,()),((c0,c1,c2,c3,c4,c5,c6,c7,()),()))
theorem Tryz.m67_eq (n : Int) (c0 : List Dop.Tok) (c1 : Int) (c2 : List Dop.Nde) (c3 : List Dop.Typ) (c4 c5 c6 c7 : Int) : m67 n c0 c1 c2 c3 c4 c5 c6 c7 =
 if (decide (n < (0 : Int))) = true then
 some (((0 : Int),()),((c0,(c1,(c2,(c3,(c4,(c5,(c6,(c7,())))))))),()))
 else
 if (decide ((0 : Int) ≤ n ∧ n < I c2.length)) = true then
 if (decide (n.toNat < c2.length)) = true then
 some (((@List.getD Dop.Nde c2 n.toNat Dop.d5).at_,()),((c0,(c1,(c2,(c3,(c4,(c5,(c6,(c7,())))))))),()))
 else none
 else none := by kernel_rfl
def Tryz.m117.p : Pln := ⟨[],1,⟨[.al 0 0],[bxA]⟩,⟨[.fd .bool],[bxB]⟩,false,[],[]⟩
noncomputable def Tryz.m117.E : Env En.Dop.D4 := envOf Tryz.prog 117 Tryz.tb [Tryz.m58.c] Tryz.m117.p
theorem Tryz.m117.ok : plnOk En.Dop.D4 Tryz.prog 117 Tryz.m117.p = true := by kernel_rfl
noncomputable def Tryz.m117.c : Ctr En.Dop.D4 := ⟨117,Tryz.m117.p.bn,Tryz.m117.p.sp,Tryz.m117.p.rs,Tryz.m117.p.flat,.opt (Tryz.m117.E.run 3000 Tryz.m117.p.sp)⟩
theorem Tryz.m117.holds : Tryz.m117.c.Holds Tryz.prog := fun_ctr 3000 Tryz.tbOk (hct_cons Tryz.m58.holds hct_nil) Tryz.m117.ok
noncomputable def Tryz.m117 (c0 : List Dop.Tok) (c1 : Int) (c2 : List Dop.Nde) (c3 : List Dop.Typ) (c4 c5 c6 c7 : Int) : Option (Spec.D En.Dop.D4 ⟨[.fd .bool],[bxB]⟩) := Tryz.m117.E.run 3000 Tryz.m117.p.sp (((),()),((c0,c1,c2,c3,c4,c5,c6,c7,()),()))
theorem Tryz.m117_eq (c0 : List Dop.Tok) (c1 : Int) (c2 : List Dop.Nde) (c3 : List Dop.Typ) (c4 c5 c6 c7 : Int) : m117 c0 c1 c2 c3 c4 c5 c6 c7 =
 (m58 ([105,110,116] : List UInt8) c0 c1 c2 c3 c4 c5 c6 c7).bind fun y2 =>
 if y2.1.1 = true then
 some ((true,()),((y2.2.1.1,(y2.2.1.2.1,(y2.2.1.2.2.1,(y2.2.1.2.2.2.1,(y2.2.1.2.2.2.2.1,(y2.2.1.2.2.2.2.2.1,(y2.2.1.2.2.2.2.2.2.1,(y2.2.1.2.2.2.2.2.2.2.1,())))))))),()))
 else
  (m58 ([117,110,115,105,103,110,101,100] : List UInt8) y2.2.1.1 y2.2.1.2.1 y2.2.1.2.2.1 y2.2.1.2.2.2.1 y2.2.1.2.2.2.2.1 y2.2.1.2.2.2.2.2.1 y2.2.1.2.2.2.2.2.2.1 y2.2.1.2.2.2.2.2.2.2.1).bind fun y4 =>
 if y4.1.1 = true then
 some ((true,()),((y4.2.1.1,(y4.2.1.2.1,(y4.2.1.2.2.1,(y4.2.1.2.2.2.1,(y4.2.1.2.2.2.2.1,(y4.2.1.2.2.2.2.2.1,(y4.2.1.2.2.2.2.2.2.1,(y4.2.1.2.2.2.2.2.2.2.1,())))))))),()))
 else
   (m58 ([99,104,97,114] : List UInt8) y4.2.1.1 y4.2.1.2.1 y4.2.1.2.2.1 y4.2.1.2.2.2.1 y4.2.1.2.2.2.2.1 y4.2.1.2.2.2.2.2.1 y4.2.1.2.2.2.2.2.2.1 y4.2.1.2.2.2.2.2.2.2.1).bind fun y6 =>
 if y6.1.1 = true then
 some ((true,()),((y6.2.1.1,(y6.2.1.2.1,(y6.2.1.2.2.1,(y6.2.1.2.2.2.1,(y6.2.1.2.2.2.2.1,(y6.2.1.2.2.2.2.2.1,(y6.2.1.2.2.2.2.2.2.1,(y6.2.1.2.2.2.2.2.2.2.1,())))))))),()))
 else
    (m58 ([118,111,105,100] : List UInt8) y6.2.1.1 y6.2.1.2.1 y6.2.1.2.2.1 y6.2.1.2.2.2.1 y6.2.1.2.2.2.2.1 y6.2.1.2.2.2.2.2.1 y6.2.1.2.2.2.2.2.2.1 y6.2.1.2.2.2.2.2.2.2.1).bind fun y8 =>
 if y8.1.1 = true then
 some ((true,()),((y8.2.1.1,(y8.2.1.2.1,(y8.2.1.2.2.1,(y8.2.1.2.2.2.1,(y8.2.1.2.2.2.2.1,(y8.2.1.2.2.2.2.2.1,(y8.2.1.2.2.2.2.2.2.1,(y8.2.1.2.2.2.2.2.2.2.1,())))))))),()))
 else
     (m58 ([115,116,114,117,99,116] : List UInt8) y8.2.1.1 y8.2.1.2.1 y8.2.1.2.2.1 y8.2.1.2.2.2.1 y8.2.1.2.2.2.2.1 y8.2.1.2.2.2.2.2.1 y8.2.1.2.2.2.2.2.2.1 y8.2.1.2.2.2.2.2.2.2.1).bind fun y10 =>
 some ((y10.1.1,()),((y10.2.1.1,(y10.2.1.2.1,(y10.2.1.2.2.1,(y10.2.1.2.2.2.1,(y10.2.1.2.2.2.2.1,(y10.2.1.2.2.2.2.2.1,(y10.2.1.2.2.2.2.2.2.1,(y10.2.1.2.2.2.2.2.2.2.1,())))))))),())) := by kernel_rfl
def Tryz.m21.p : Pln := ⟨[],0,⟨[.st 7,.fd (.int .i64)],[]⟩,⟨[.st 5],[]⟩,true,[],[]⟩
noncomputable def Tryz.m21.E : Env En.Dop.D4 := envOf Tryz.prog 21 Tryz.tb [] Tryz.m21.p
theorem Tryz.m21.ok : plnOk En.Dop.D4 Tryz.prog 21 Tryz.m21.p = true := by kernel_rfl
noncomputable def Tryz.m21.c : Ctr En.Dop.D4 := ⟨21,Tryz.m21.p.bn,Tryz.m21.p.sp,Tryz.m21.p.rs,Tryz.m21.p.flat,.opt (Tryz.m21.E.run 3000 Tryz.m21.p.sp)⟩
theorem Tryz.m21.holds : Tryz.m21.c.Holds Tryz.prog := fun_ctr 3000 Tryz.tbOk hct_nil Tryz.m21.ok
noncomputable def Tryz.m21 (t : Dop.Tre) (n : Int) : Option (Spec.D En.Dop.D4 ⟨[.st 5],[]⟩) := Tryz.m21.E.run 3000 Tryz.m21.p.sp ((t,n,()),())
theorem Tryz.m21_eq (t : Dop.Tre) (n : Int) : m21 t n =
 if (decide (n < (0 : Int))) = true then
 some ((Dop.Nde.mk (0 : Int) (0 : Int) (0 : Int) (0 : Int) (0 : Int) (@List.nil UInt8) (0 : Int) (0 : Int) (0 : Int),()),())
 else
 if (decide (I t.nodes.length ≤ n)) = true then
 some ((Dop.Nde.mk (0 : Int) (0 : Int) (0 : Int) (0 : Int) (0 : Int) (@List.nil UInt8) (0 : Int) (0 : Int) (0 : Int),()),())
 else
 if (decide ((0 : Int) ≤ n ∧ n < I t.nodes.length)) = true then
 some ((@List.getD Dop.Nde t.nodes n.toNat Dop.d5,()),())
 else none := by kernel_rfl
def Tryz.m8.p : Pln := ⟨[(3,⟨[[0,0,0,0,1,0,1,1],[0,1,0,0,1,0,1,1],[2,0,0,1,0,1,1],[1,0],[0,1,1,1]],[1,2,5,9,10],1,⟨[.fd (.int .i64),.al 0 0,.own 0 3,.fd (.int .i64),.fd (.int .i64)],[⟨0,25,[.st 7],false⟩]⟩⟩)],0,⟨[.st 7,.fd (.int .i64)],[]⟩,⟨[.own 0 3],[]⟩,true,[],[]⟩
noncomputable def Tryz.m8.E : Env En.Dop.D4 := envOf Tryz.prog 8 Tryz.tb [Tryz.m21.c] Tryz.m8.p
theorem Tryz.m8.ok : plnOk En.Dop.D4 Tryz.prog 8 Tryz.m8.p = true := by kernel_rfl
noncomputable def Tryz.m8.c : Ctr En.Dop.D4 := ⟨8,Tryz.m8.p.bn,Tryz.m8.p.sp,Tryz.m8.p.rs,Tryz.m8.p.flat,.opt (Tryz.m8.E.run 3000 Tryz.m8.p.sp)⟩
theorem Tryz.m8.holds : Tryz.m8.c.Holds Tryz.prog := fun_ctr 3000 Tryz.tbOk (hct_cons Tryz.m21.holds hct_nil) Tryz.m8.ok
noncomputable def Tryz.m8 (t : Dop.Tre) (n : Int) : Option (Spec.D En.Dop.D4 ⟨[.own 0 3],[]⟩) := Tryz.m8.E.run 3000 Tryz.m8.p.sp ((t,n,()),())
noncomputable def Tryz.m8_3 (n : Int) (out : List (Int)) (t9 : Int) (t10 : Int) (b0 : Dop.Tre) : Option (Spec.D En.Dop.D4 ⟨[.own 0 3],[]⟩) := Tryz.m8.E.cut 3000 3 ((n,(),out,t9,t10,()),((b0,()),()))
theorem Tryz.m8_eq (t : Dop.Tre) (n : Int) : m8 t n =
 m8_3 (n) (@List.nil Int) (I t.nodes.length) ((0 : Int)) (t) := by kernel_rfl
theorem Tryz.m8_3_eq (n : Int) (out : List (Int)) (t9 : Int) (t10 : Int) (b0 : Dop.Tre) : m8_3 n out t9 t10 b0 =
 if (decide (t10 < t9)) = true then
  (m21 (b0) (n)).bind fun y3 =>
 if (!decide (y3.1.1.kind = (20 : Int))) = true then
 some ((out,()),())
 else
 if (andC none (room (8 : Nat) (out.length + (y3.1.1.a :: @List.nil Int).length))) = true then
 if (inR (t10 + (1 : Int))) = true then
   m8_3 (y3.1.1.b) (out ++ y3.1.1.a :: @List.nil Int) (t9) (t10 + (1 : Int)) (b0)
 else none
 else none
 else
 some ((out,()),()) := Env.cut_eq' (E := Tryz.m8.E) (f0 := 3000) (c := 3) (q := ⟨[[0,0,0,0,1,0,1,1],[0,1,0,0,1,0,1,1],[2,0,0,1,0,1,1],[1,0],[0,1,1,1]],[1,2,5,9,10],1,⟨[.fd (.int .i64),.al 0 0,.own 0 3,.fd (.int .i64),.fd (.int .i64)],[⟨0,25,[.st 7],false⟩]⟩⟩) (by kernel_rfl) ((n,(),out,t9,t10,()),((b0,()),())) (by kernel_rfl) (by kernel_rfl)
def Tryz.m22.p : Pln := ⟨[(4,⟨[[0,0,0,0,1,0,1,1],[0,1,0,0,1,0,1,1],[2,0,0,1,0,1,1],[1,0],[0,1,1,1]],[2,3,33,34,35],2,⟨[.al 0 0,.al 1 0,.fd (.sl 5),.fd (.int .i64),.fd (.int .i64)],[⟨0,25,[.st 7],false⟩,⟨1,25,[.st 7],false⟩]⟩⟩),(12,⟨[[0,0,0,0,1,0,1,1,1],[0,1,0,0,1,0,1,1,1],[2,0,0,1,0,1,1,1],[1,2],[0,1,1,1,1]],[2,3,53,54],2,⟨[.al 0 0,.al 1 0,.fd (.int .i64),.fd (.int .i64)],[⟨0,25,[.st 7],false⟩,⟨1,25,[.st 7],false⟩]⟩⟩)],0,⟨[.st 7,.st 7],[]⟩,⟨[.fd .bool],[]⟩,true,[(14,⟨[(0,true),(1,false),(2,true),(3,false),(4,false),(5,true),(6,false),(7,true),(8,false),(9,false),(10,true)],[],[0,1,0,7,15,0,32,0,224,480,1023],false⟩)],[]⟩
noncomputable def Tryz.m22.E : Env En.Dop.D4 := envOf Tryz.prog 22 Tryz.tb [] Tryz.m22.p
theorem Tryz.m22.ok : plnOk En.Dop.D4 Tryz.prog 22 Tryz.m22.p = true := by kernel_rfl
noncomputable def Tryz.m22.c : Ctr En.Dop.D4 := ⟨22,Tryz.m22.p.bn,Tryz.m22.p.sp,Tryz.m22.p.rs,Tryz.m22.p.flat,.opt (Tryz.m22.E.run 3000 Tryz.m22.p.sp)⟩
theorem Tryz.m22.holds : Tryz.m22.c.Holds Tryz.prog := fun_ctr 3000 Tryz.tbOk hct_nil Tryz.m22.ok
noncomputable def Tryz.m22 (o : Dop.Tre) (t1 : Dop.Tre) : Option (Spec.D En.Dop.D4 ⟨[.fd .bool],[]⟩) := Tryz.m22.E.run 3000 Tryz.m22.p.sp ((o,t1,()),())
noncomputable def Tryz.m22_4 (t33 : List (Dop.Nde)) (t34 : Int) (t35 : Int) (b0 : Dop.Tre) (b1 : Dop.Tre) : Option (Spec.D En.Dop.D4 ⟨[.fd .bool],[]⟩) := Tryz.m22.E.cut 3000 4 (((),(),t33,t34,t35,()),((b0,()),(b1,()),()))
noncomputable def Tryz.m22_12 (t53 : Int) (t54 : Int) (b0 : Dop.Tre) (b1 : Dop.Tre) : Option (Spec.D En.Dop.D4 ⟨[.fd .bool],[]⟩) := Tryz.m22.E.cut 3000 12 (((),(),t53,t54,()),((b0,()),(b1,()),()))
theorem Tryz.m22_eq (o : Dop.Tre) (t1 : Dop.Tre) : m22 o t1 =
 if (!decide (I o.nodes.length = I t1.nodes.length)) = true then
 some ((false,()),())
 else
 if (!decide (I o.types.length = I t1.types.length)) = true then
 some ((false,()),())
 else
 if (!decide (o.top = t1.top)) = true then
 some ((false,()),())
 else
   m22_4 (o.nodes) (I o.nodes.length) ((0 : Int)) (o) (t1) := by kernel_rfl
theorem Tryz.m22_4_eq (t33 : List (Dop.Nde)) (t34 : Int) (t35 : Int) (b0 : Dop.Tre) (b1 : Dop.Tre) : m22_4 t33 t34 t35 b0 b1 =
 if (decide (t35 < t34)) = true then
 if (decide ((0 : Int) ≤ t35 ∧ t35 < I t33.length)) = true then
 if (decide ((0 : Int) ≤ t35 ∧ t35 < I b1.nodes.length)) = true then
 if (!eqSs (List.take (9 : Nat) (List.drop (0 : Nat) (spl (spl (SV.v (Value.int IntKind.i64 (0 : Int)) :: SV.v (Value.int IntKind.i64 (0 : Int)) :: SV.v (Value.int IntKind.i64 (0 : Int)) :: SV.v (Value.int IntKind.i64 (0 : Int)) :: SV.v (Value.int IntKind.i64 (0 : Int)) :: SV.v (Value.string (ByteArray.mk (@List.nil UInt8).toArray)) :: SV.v (Value.int IntKind.i64 (0 : Int)) :: SV.v (Value.int IntKind.i64 (0 : Int)) :: SV.v (Value.int IntKind.i64 (0 : Int)) :: @List.nil SV) (0 : Nat) (List.take (9 : Nat) (List.drop (0 : Nat) (SV.v (Value.int IntKind.i64 (@List.getD Dop.Nde t33 t35.toNat Dop.d5).kind) :: SV.v (Value.int IntKind.i64 (@List.getD Dop.Nde t33 t35.toNat Dop.d5).a) :: SV.v (Value.int IntKind.i64 (@List.getD Dop.Nde t33 t35.toNat Dop.d5).b) :: SV.v (Value.int IntKind.i64 (@List.getD Dop.Nde t33 t35.toNat Dop.d5).c) :: SV.v (Value.int IntKind.i64 (@List.getD Dop.Nde t33 t35.toNat Dop.d5).d) :: SV.v (Value.string (ByteArray.mk (Array.mk (@List.getD Dop.Nde t33 t35.toNat Dop.d5).text))) :: SV.v (Value.int IntKind.i64 (@List.getD Dop.Nde t33 t35.toNat Dop.d5).n) :: SV.v (Value.int IntKind.i64 (@List.getD Dop.Nde t33 t35.toNat Dop.d5).type_) :: SV.v (Value.int IntKind.i64 (@List.getD Dop.Nde t33 t35.toNat Dop.d5).at_) :: @List.nil SV)))) ((0 : Nat) + (8 : Nat)) (SV.v (Value.int IntKind.i64 (0 : Int)) :: @List.nil SV)))) (List.take (9 : Nat) (List.drop (0 : Nat) (spl (spl (SV.v (Value.int IntKind.i64 (0 : Int)) :: SV.v (Value.int IntKind.i64 (0 : Int)) :: SV.v (Value.int IntKind.i64 (0 : Int)) :: SV.v (Value.int IntKind.i64 (0 : Int)) :: SV.v (Value.int IntKind.i64 (0 : Int)) :: SV.v (Value.string (ByteArray.mk (@List.nil UInt8).toArray)) :: SV.v (Value.int IntKind.i64 (0 : Int)) :: SV.v (Value.int IntKind.i64 (0 : Int)) :: SV.v (Value.int IntKind.i64 (0 : Int)) :: @List.nil SV) (0 : Nat) (List.take (9 : Nat) (List.drop (0 : Nat) (SV.v (Value.int IntKind.i64 (@List.getD Dop.Nde b1.nodes t35.toNat Dop.d5).kind) :: SV.v (Value.int IntKind.i64 (@List.getD Dop.Nde b1.nodes t35.toNat Dop.d5).a) :: SV.v (Value.int IntKind.i64 (@List.getD Dop.Nde b1.nodes t35.toNat Dop.d5).b) :: SV.v (Value.int IntKind.i64 (@List.getD Dop.Nde b1.nodes t35.toNat Dop.d5).c) :: SV.v (Value.int IntKind.i64 (@List.getD Dop.Nde b1.nodes t35.toNat Dop.d5).d) :: SV.v (Value.string (ByteArray.mk (Array.mk (@List.getD Dop.Nde b1.nodes t35.toNat Dop.d5).text))) :: SV.v (Value.int IntKind.i64 (@List.getD Dop.Nde b1.nodes t35.toNat Dop.d5).n) :: SV.v (Value.int IntKind.i64 (@List.getD Dop.Nde b1.nodes t35.toNat Dop.d5).type_) :: SV.v (Value.int IntKind.i64 (@List.getD Dop.Nde b1.nodes t35.toNat Dop.d5).at_) :: @List.nil SV)))) ((0 : Nat) + (8 : Nat)) (SV.v (Value.int IntKind.i64 (0 : Int)) :: @List.nil SV))))) = true then
 some ((false,()),())
 else
 if (inR (t35 + (1 : Int))) = true then
  m22_4 (t33) (t34) (t35 + (1 : Int)) (b0) (b1)
 else none
 else none
 else none
 else
  m22_12 (I b0.types.length) ((0 : Int)) (b0) (b1) := Env.cut_eq' (E := Tryz.m22.E) (f0 := 3000) (c := 4) (q := ⟨[[0,0,0,0,1,0,1,1],[0,1,0,0,1,0,1,1],[2,0,0,1,0,1,1],[1,0],[0,1,1,1]],[2,3,33,34,35],2,⟨[.al 0 0,.al 1 0,.fd (.sl 5),.fd (.int .i64),.fd (.int .i64)],[⟨0,25,[.st 7],false⟩,⟨1,25,[.st 7],false⟩]⟩⟩) (by kernel_rfl) (((),(),t33,t34,t35,()),((b0,()),(b1,()),())) (by kernel_rfl) (by kernel_rfl)
theorem Tryz.m22_12_eq (t53 : Int) (t54 : Int) (b0 : Dop.Tre) (b1 : Dop.Tre) : m22_12 t53 t54 b0 b1 =
 if (decide (t54 < t53)) = true then
 if (decide ((0 : Int) ≤ t54 ∧ t54 < I b0.types.length)) = true then
 if (decide ((0 : Int) ≤ t54 ∧ t54 < I b1.types.length)) = true then
 if (!eqSs (List.take (4 : Nat) (List.drop (0 : Nat) (SV.v (Value.int IntKind.i64 (@List.getD Dop.Typ b0.types t54.toNat Dop.d6).kind) :: SV.v (Value.int IntKind.i64 (@List.getD Dop.Typ b0.types t54.toNat Dop.d6).elem) :: SV.v (Value.int IntKind.i64 (@List.getD Dop.Typ b0.types t54.toNat Dop.d6).n) :: SV.v (Value.string (ByteArray.mk (Array.mk (@List.getD Dop.Typ b0.types t54.toNat Dop.d6).name))) :: @List.nil SV))) (List.take (4 : Nat) (List.drop (0 : Nat) (SV.v (Value.int IntKind.i64 (@List.getD Dop.Typ b1.types t54.toNat Dop.d6).kind) :: SV.v (Value.int IntKind.i64 (@List.getD Dop.Typ b1.types t54.toNat Dop.d6).elem) :: SV.v (Value.int IntKind.i64 (@List.getD Dop.Typ b1.types t54.toNat Dop.d6).n) :: SV.v (Value.string (ByteArray.mk (Array.mk (@List.getD Dop.Typ b1.types t54.toNat Dop.d6).name))) :: @List.nil SV)))) = true then
 some ((false,()),())
 else
 if (inR (t54 + (1 : Int))) = true then
  m22_12 (t53) (t54 + (1 : Int)) (b0) (b1)
 else none
 else none
 else none
 else
 some ((true,()),()) := Env.cut_eq' (E := Tryz.m22.E) (f0 := 3000) (c := 12) (q := ⟨[[0,0,0,0,1,0,1,1,1],[0,1,0,0,1,0,1,1,1],[2,0,0,1,0,1,1,1],[1,2],[0,1,1,1,1]],[2,3,53,54],2,⟨[.al 0 0,.al 1 0,.fd (.int .i64),.fd (.int .i64)],[⟨0,25,[.st 7],false⟩,⟨1,25,[.st 7],false⟩]⟩⟩) (by kernel_rfl) (((),(),t53,t54,()),((b0,()),(b1,()),())) (by kernel_rfl) (by kernel_rfl)
def Tryz.m40.p : Pln := ⟨[],1,⟨[.fd (.int .i64),.al 0 0],[⟨0,25,[.st 7],false⟩]⟩,⟨[.st 5],[⟨0,25,[.st 7],false⟩]⟩,false,[],[]⟩
noncomputable def Tryz.m40.E : Env En.Dop.D4 := envOf Tryz.prog 40 Tryz.tb [] Tryz.m40.p
theorem Tryz.m40.ok : plnOk En.Dop.D4 Tryz.prog 40 Tryz.m40.p = true := by kernel_rfl
noncomputable def Tryz.m40.c : Ctr En.Dop.D4 := ⟨40,Tryz.m40.p.bn,Tryz.m40.p.sp,Tryz.m40.p.rs,Tryz.m40.p.flat,.opt (Tryz.m40.E.run 3000 Tryz.m40.p.sp)⟩
theorem Tryz.m40.holds : Tryz.m40.c.Holds Tryz.prog := fun_ctr 3000 Tryz.tbOk hct_nil Tryz.m40.ok
noncomputable def Tryz.m40 (n : Int) (b0 : Dop.Tre) : Option (Spec.D En.Dop.D4 ⟨[.st 5],[⟨0,25,[.st 7],false⟩]⟩) := Tryz.m40.E.run 3000 Tryz.m40.p.sp ((n,(),()),((b0,()),()))
theorem Tryz.m40_eq (n : Int) (b0 : Dop.Tre) : m40 n b0 =
 if (decide (n < (0 : Int))) = true then
 some ((Dop.Nde.mk (0 : Int) (0 : Int) (0 : Int) (0 : Int) (0 : Int) (@List.nil UInt8) (0 : Int) (0 : Int) (0 : Int),()),((b0,()),()))
 else
 if (decide (I b0.nodes.length ≤ n)) = true then
 some ((Dop.Nde.mk (0 : Int) (0 : Int) (0 : Int) (0 : Int) (0 : Int) (@List.nil UInt8) (0 : Int) (0 : Int) (0 : Int),()),((b0,()),()))
 else
 if (decide ((0 : Int) ≤ n ∧ n < I b0.nodes.length)) = true then
 some ((@List.getD Dop.Nde b0.nodes n.toNat Dop.d5,()),((b0,()),()))
 else none := by kernel_rfl
def Tryz.m23.p : Pln := ⟨[(3,⟨[[0,0,0,0,1,0,1,1],[0,1,0,0,1,0,1,1],[2,0,0,1,0,1,1],[1,0],[0,1,1,1]],[3,10,11,12],1,⟨[.fn 40 [(0,0)],.fd (.sl 5),.fd (.int .i64),.fd (.int .i64)],[⟨0,25,[.st 7],false⟩]⟩⟩)],0,⟨[.st 7],[]⟩,⟨[.fd .bool],[]⟩,true,[],[]⟩
noncomputable def Tryz.m23.E : Env En.Dop.D4 := envOf Tryz.prog 23 Tryz.tb [Tryz.m40.c] Tryz.m23.p
theorem Tryz.m23.ok : plnOk En.Dop.D4 Tryz.prog 23 Tryz.m23.p = true := by kernel_rfl
noncomputable def Tryz.m23.c : Ctr En.Dop.D4 := ⟨23,Tryz.m23.p.bn,Tryz.m23.p.sp,Tryz.m23.p.rs,Tryz.m23.p.flat,.opt (Tryz.m23.E.run 3000 Tryz.m23.p.sp)⟩
theorem Tryz.m23.holds : Tryz.m23.c.Holds Tryz.prog := fun_ctr 3000 Tryz.tbOk (hct_cons Tryz.m40.holds hct_nil) Tryz.m23.ok
noncomputable def Tryz.m23 (o : Dop.Tre) : Option (Spec.D En.Dop.D4 ⟨[.fd .bool],[]⟩) := Tryz.m23.E.run 3000 Tryz.m23.p.sp ((o,()),())
noncomputable def Tryz.m23_3 (t10 : List (Dop.Nde)) (t11 : Int) (t12 : Int) (b0 : Dop.Tre) : Option (Spec.D En.Dop.D4 ⟨[.fd .bool],[]⟩) := Tryz.m23.E.cut 3000 3 (((),t10,t11,t12,()),((b0,()),()))
theorem Tryz.m23_eq (o : Dop.Tre) : m23 o =
 m23_3 (o.nodes) (I o.nodes.length) ((0 : Int)) (o) := by kernel_rfl
theorem Tryz.m23_3_eq (t10 : List (Dop.Nde)) (t11 : Int) (t12 : Int) (b0 : Dop.Tre) : m23_3 t10 t11 t12 b0 =
 if (decide (t12 < t11)) = true then
 if (decide ((0 : Int) ≤ t12 ∧ t12 < I t10.length)) = true then
  (m40 ((@List.getD Dop.Nde t10 t12.toNat Dop.d5).a) (b0)).bind fun y3 =>
  (m40 (y3.1.1.b) y3.2.1.1).bind fun y4 =>
 if (decide ((@List.getD Dop.Nde t10 t12.toNat Dop.d5).kind = (37 : Int))) = true then
 if (decide (y3.1.1.kind = (4 : Int))) = true then
 if (decide (y3.1.1.text = (43 : UInt8) :: @List.nil UInt8)) = true then
    (m40 (y3.1.1.a) y4.2.1.1).bind fun y8 =>
 if (decide (y8.1.1.n = (1 : Int))) = true then
 if (decide (y4.1.1.kind = (4 : Int))) = true then
 if (decide (y4.1.1.text = (42 : UInt8) :: @List.nil UInt8)) = true then
      (m40 (y4.1.1.a) y8.2.1.1).bind fun y12 =>
 if (decide (y12.1.1.n = (2 : Int))) = true then
       (m40 (y4.1.1.b) y12.2.1.1).bind fun y14 =>
 if (decide (y14.1.1.n = (3 : Int))) = true then
 some ((true,()),())
 else
 if (inR (t12 + (1 : Int))) = true then
        m23_3 (t10) (t11) (t12 + (1 : Int)) y14.2.1.1
 else none
 else
 if (inR (t12 + (1 : Int))) = true then
       m23_3 (t10) (t11) (t12 + (1 : Int)) y12.2.1.1
 else none
 else
 if (inR (t12 + (1 : Int))) = true then
      m23_3 (t10) (t11) (t12 + (1 : Int)) y8.2.1.1
 else none
 else
 if (inR (t12 + (1 : Int))) = true then
      m23_3 (t10) (t11) (t12 + (1 : Int)) y8.2.1.1
 else none
 else
 if (inR (t12 + (1 : Int))) = true then
     m23_3 (t10) (t11) (t12 + (1 : Int)) y8.2.1.1
 else none
 else
 if (inR (t12 + (1 : Int))) = true then
    m23_3 (t10) (t11) (t12 + (1 : Int)) y4.2.1.1
 else none
 else
 if (inR (t12 + (1 : Int))) = true then
    m23_3 (t10) (t11) (t12 + (1 : Int)) y4.2.1.1
 else none
 else
 if (inR (t12 + (1 : Int))) = true then
   m23_3 (t10) (t11) (t12 + (1 : Int)) y4.2.1.1
 else none
 else none
 else
 some ((false,()),()) := Env.cut_eq' (E := Tryz.m23.E) (f0 := 3000) (c := 3) (q := ⟨[[0,0,0,0,1,0,1,1],[0,1,0,0,1,0,1,1],[2,0,0,1,0,1,1],[1,0],[0,1,1,1]],[3,10,11,12],1,⟨[.fn 40 [(0,0)],.fd (.sl 5),.fd (.int .i64),.fd (.int .i64)],[⟨0,25,[.st 7],false⟩]⟩⟩) (by kernel_rfl) (((),t10,t11,t12,()),((b0,()),())) (by kernel_rfl) (by kernel_rfl)
def Tryz.m133.p : Pln := ⟨[],0,⟨[],[]⟩,⟨[.own 1 9],[]⟩,true,[],[]⟩
noncomputable def Tryz.m133.E : Env En.Dop.D4 := envOf Tryz.prog 133 Tryz.tb [] Tryz.m133.p
theorem Tryz.m133.ok : plnOk En.Dop.D4 Tryz.prog 133 Tryz.m133.p = true := by kernel_rfl
noncomputable def Tryz.m133.c : Ctr En.Dop.D4 := ⟨133,Tryz.m133.p.bn,Tryz.m133.p.sp,Tryz.m133.p.rs,Tryz.m133.p.flat,.opt (Tryz.m133.E.run 3000 Tryz.m133.p.sp)⟩
theorem Tryz.m133.holds : Tryz.m133.c.Holds Tryz.prog := fun_ctr 3000 Tryz.tbOk hct_nil Tryz.m133.ok
noncomputable def Tryz.m133 : Option (Spec.D En.Dop.D4 ⟨[.own 1 9],[]⟩) := Tryz.m133.E.run 3000 Tryz.m133.p.sp ((),())
theorem Tryz.m133_eq : m133 =
 some ((([124,124] : List UInt8) :: ([38,38] : List UInt8) :: ([124] : List UInt8) :: ([94] : List UInt8) :: ([38] : List UInt8) :: ([61,61,32,33,61] : List UInt8) :: ([60,32,60,61,32,62,32,62,61] : List UInt8) :: ([60,60,32,62,62] : List UInt8) :: ([43,32,45] : List UInt8) :: ([42,32,47,32,37] : List UInt8) :: @List.nil (List UInt8),()),()) := by kernel_rfl
def Tryz.m30.p : Pln := ⟨[(2,⟨[[0,0,0,0,0,0,1,1,0,1],[0,1,0,0,0,0,1,1,0,1],[0,1,0,0,0,1,1,0,1],[2,0,0,0,1,1,0,1],[1,0],[0,1,1,1,0,1],[3,0,1]],[0,4],0,⟨[.fd .str,.fd (.int .i64)],[]⟩⟩)],0,⟨[.fd .str],[]⟩,⟨[.fd (.int .i64),.fd .bool],[]⟩,true,[],[]⟩
noncomputable def Tryz.m30.E : Env En.Dop.D4 := envOf Tryz.prog 30 Tryz.tb [Tryz.indexByte.c,Tryz.hasPrefix.c,Tryz.index.c] Tryz.m30.p
theorem Tryz.m30.ok : plnOk En.Dop.D4 Tryz.prog 30 Tryz.m30.p = true := by kernel_rfl
noncomputable def Tryz.m30.c : Ctr En.Dop.D4 := ⟨30,Tryz.m30.p.bn,Tryz.m30.p.sp,Tryz.m30.p.rs,Tryz.m30.p.flat,.opt (Tryz.m30.E.run 3000 Tryz.m30.p.sp)⟩
theorem Tryz.m30.holds : Tryz.m30.c.Holds Tryz.prog := fun_ctr 3000 Tryz.tbOk (hct_cons Tryz.indexByte.holds (hct_cons Tryz.hasPrefix.holds (hct_cons Tryz.index.holds hct_nil))) Tryz.m30.ok
noncomputable def Tryz.m30 (s : List UInt8) : Option (Spec.D En.Dop.D4 ⟨[.fd (.int .i64),.fd .bool],[]⟩) := Tryz.m30.E.run 3000 Tryz.m30.p.sp ((s,()),())
noncomputable def Tryz.m30_2 (s : List UInt8) (at_ : Int) : Option (Spec.D En.Dop.D4 ⟨[.fd (.int .i64),.fd .bool],[]⟩) := Tryz.m30.E.cut 3000 2 ((s,at_,()),())
theorem Tryz.m30_eq (s : List UInt8) : m30 s =
 m30_2 (s) ((0 : Int)) := by kernel_rfl
theorem Tryz.m30_2_eq (s : List UInt8) (at_ : Int) : m30_2 s at_ =
 if (decide (at_ < I s.length)) = true then
 if (decide ((0 : Int) ≤ at_ ∧ at_ ≤ I s.length ∧ I s.length ≤ I s.length)) = true then
 if (decide ((0 : Int) ≤ at_ ∧ at_ < I s.length)) = true then
 if (true) = true then
 if (decide ((0 : Int) ≤ Lib.indexByte ([32,9,10,13] : List UInt8) (strAt s at_).toNat.toUInt8)) = true then
 if (inR (at_ + (1 : Int))) = true then
  m30_2 (s) (at_ + (1 : Int))
 else none
 else
 if (true) = true then
 if (Lib.hasPrefix (List.drop at_.toNat (List.take (I s.length).toNat s)) ([47,47] : List UInt8)) = true then
 if (true) = true then
 if (decide (Lib.indexByte (List.drop at_.toNat (List.take (I s.length).toNat s)) (Int.toNat (10 : Int)).toUInt8 < (0 : Int))) = true then
 some ((I s.length,(true,())),())
 else
 if (inR (at_ + Lib.indexByte (List.drop at_.toNat (List.take (I s.length).toNat s)) (Int.toNat (10 : Int)).toUInt8)) = true then
   m30_2 (s) (at_ + Lib.indexByte (List.drop at_.toNat (List.take (I s.length).toNat s)) (Int.toNat (10 : Int)).toUInt8)
 else none
 else none
 else
 if (true) = true then
 if (Lib.hasPrefix (List.drop at_.toNat (List.take (I s.length).toNat s)) ([47,42] : List UInt8)) = true then
 if (decide ((0 : Int) ≤ (2 : Int) ∧ (2 : Int) ≤ I (List.drop at_.toNat (List.take (I s.length).toNat s)).length ∧ I (List.drop at_.toNat (List.take (I s.length).toNat s)).length ≤ I (List.drop at_.toNat (List.take (I s.length).toNat s)).length)) = true then
 if (okS (List.drop (Int.toNat (2 : Int)) (List.take (I (List.drop at_.toNat (List.take (I s.length).toNat s)).length).toNat (List.drop at_.toNat (List.take (I s.length).toNat s))))) = true then
 if (decide (Lib.index (List.drop (Int.toNat (2 : Int)) (List.take (I (List.drop at_.toNat (List.take (I s.length).toNat s)).length).toNat (List.drop at_.toNat (List.take (I s.length).toNat s)))) ([42,47] : List UInt8) < (0 : Int))) = true then
 some ((at_,(false,())),())
 else
 if (inR (Lib.index (List.drop (Int.toNat (2 : Int)) (List.take (I (List.drop at_.toNat (List.take (I s.length).toNat s)).length).toNat (List.drop at_.toNat (List.take (I s.length).toNat s)))) ([42,47] : List UInt8) + (4 : Int))) = true then
 if (inR (at_ + (Lib.index (List.drop (Int.toNat (2 : Int)) (List.take (I (List.drop at_.toNat (List.take (I s.length).toNat s)).length).toNat (List.drop at_.toNat (List.take (I s.length).toNat s)))) ([42,47] : List UInt8) + (4 : Int)))) = true then
    m30_2 (s) (at_ + (Lib.index (List.drop (Int.toNat (2 : Int)) (List.take (I (List.drop at_.toNat (List.take (I s.length).toNat s)).length).toNat (List.drop at_.toNat (List.take (I s.length).toNat s)))) ([42,47] : List UInt8) + (4 : Int)))
 else none
 else none
 else none
 else none
 else
 some ((at_,(true,())),())
 else none
 else none
 else none
 else none
 else none
 else
 some ((at_,(true,())),()) := Env.cut_eq' (E := Tryz.m30.E) (f0 := 3000) (c := 2) (q := ⟨[[0,0,0,0,0,0,1,1,0,1],[0,1,0,0,0,0,1,1,0,1],[0,1,0,0,0,1,1,0,1],[2,0,0,0,1,1,0,1],[1,0],[0,1,1,1,0,1],[3,0,1]],[0,4],0,⟨[.fd .str,.fd (.int .i64)],[]⟩⟩) (by kernel_rfl) ((s,at_,()),()) (by kernel_rfl) (by kernel_rfl)
def Tryz.m49.p : Pln := ⟨[],0,⟨[.fd (.int .u8)],[]⟩,⟨[.fd .bool],[]⟩,true,[],[]⟩
noncomputable def Tryz.m49.E : Env En.Dop.D4 := envOf Tryz.prog 49 Tryz.tb [] Tryz.m49.p
theorem Tryz.m49.ok : plnOk En.Dop.D4 Tryz.prog 49 Tryz.m49.p = true := by kernel_rfl
noncomputable def Tryz.m49.c : Ctr En.Dop.D4 := ⟨49,Tryz.m49.p.bn,Tryz.m49.p.sp,Tryz.m49.p.rs,Tryz.m49.p.flat,.opt (Tryz.m49.E.run 3000 Tryz.m49.p.sp)⟩
theorem Tryz.m49.holds : Tryz.m49.c.Holds Tryz.prog := fun_ctr 3000 Tryz.tbOk hct_nil Tryz.m49.ok
noncomputable def Tryz.m49 (c : Int) : Option (Spec.D En.Dop.D4 ⟨[.fd .bool],[]⟩) := Tryz.m49.E.run 3000 Tryz.m49.p.sp ((c,()),())
theorem Tryz.m49_eq (c : Int) : m49 c =
 if (decide ((97 : Int) ≤ c)) = true then
 if (decide (c ≤ (122 : Int))) = true then
 some ((true,()),())
 else
 if (decide ((65 : Int) ≤ c)) = true then
 if (decide (c ≤ (90 : Int))) = true then
 some ((true,()),())
 else
 some ((decide (c = (95 : Int)),()),())
 else
 some ((decide (c = (95 : Int)),()),())
 else
 if (decide ((65 : Int) ≤ c)) = true then
 if (decide (c ≤ (90 : Int))) = true then
 some ((true,()),())
 else
 some ((decide (c = (95 : Int)),()),())
 else
 some ((decide (c = (95 : Int)),()),()) := by kernel_rfl
def Tryz.m52.p : Pln := ⟨[],0,⟨[.fd (.int .u8)],[]⟩,⟨[.fd .bool],[]⟩,true,[],[]⟩
noncomputable def Tryz.m52.E : Env En.Dop.D4 := envOf Tryz.prog 52 Tryz.tb [] Tryz.m52.p
theorem Tryz.m52.ok : plnOk En.Dop.D4 Tryz.prog 52 Tryz.m52.p = true := by kernel_rfl
noncomputable def Tryz.m52.c : Ctr En.Dop.D4 := ⟨52,Tryz.m52.p.bn,Tryz.m52.p.sp,Tryz.m52.p.rs,Tryz.m52.p.flat,.opt (Tryz.m52.E.run 3000 Tryz.m52.p.sp)⟩
theorem Tryz.m52.holds : Tryz.m52.c.Holds Tryz.prog := fun_ctr 3000 Tryz.tbOk hct_nil Tryz.m52.ok
noncomputable def Tryz.m52 (c : Int) : Option (Spec.D En.Dop.D4 ⟨[.fd .bool],[]⟩) := Tryz.m52.E.run 3000 Tryz.m52.p.sp ((c,()),())
theorem Tryz.m52_eq (c : Int) : m52 c =
 if (decide ((48 : Int) ≤ c)) = true then
 some ((decide (c ≤ (57 : Int)),()),())
 else
 some ((false,()),()) := by kernel_rfl
def Tryz.m50.p : Pln := ⟨[(2,⟨[[0,0,0,0,0,0,1,1],[0,1,0,0,0,0,1,1],[0,1,0,0,0,1,1],[2,0,0,0,1,1],[1,0],[0,1,1,1]],[0,3],0,⟨[.fd .str,.fd (.int .i64)],[]⟩⟩)],0,⟨[.fd .str],[]⟩,⟨[.fd (.int .i64)],[]⟩,true,[],[]⟩
noncomputable def Tryz.m50.E : Env En.Dop.D4 := envOf Tryz.prog 50 Tryz.tb [Tryz.m49.c,Tryz.m52.c] Tryz.m50.p
theorem Tryz.m50.ok : plnOk En.Dop.D4 Tryz.prog 50 Tryz.m50.p = true := by kernel_rfl
noncomputable def Tryz.m50.c : Ctr En.Dop.D4 := ⟨50,Tryz.m50.p.bn,Tryz.m50.p.sp,Tryz.m50.p.rs,Tryz.m50.p.flat,.opt (Tryz.m50.E.run 3000 Tryz.m50.p.sp)⟩
theorem Tryz.m50.holds : Tryz.m50.c.Holds Tryz.prog := fun_ctr 3000 Tryz.tbOk (hct_cons Tryz.m49.holds (hct_cons Tryz.m52.holds hct_nil)) Tryz.m50.ok
noncomputable def Tryz.m50 (s : List UInt8) : Option (Spec.D En.Dop.D4 ⟨[.fd (.int .i64)],[]⟩) := Tryz.m50.E.run 3000 Tryz.m50.p.sp ((s,()),())
noncomputable def Tryz.m50_2 (s : List UInt8) (n : Int) : Option (Spec.D En.Dop.D4 ⟨[.fd (.int .i64)],[]⟩) := Tryz.m50.E.cut 3000 2 ((s,n,()),())
theorem Tryz.m50_eq (s : List UInt8) : m50 s =
 m50_2 (s) ((0 : Int)) := by kernel_rfl
theorem Tryz.m50_2_eq (s : List UInt8) (n : Int) : m50_2 s n =
 if (decide (n < I s.length)) = true then
 if (decide ((0 : Int) ≤ n ∧ n < I s.length)) = true then
  (m49 (strAt s n)).bind fun y3 =>
 if y3.1.1 = true then
 if (inR (n + (1 : Int))) = true then
   m50_2 (s) (n + (1 : Int))
 else none
 else
 if (decide ((0 : Int) ≤ n ∧ n < I s.length)) = true then
   (m52 (strAt s n)).bind fun y5 =>
 if y5.1.1 = true then
 if (inR (n + (1 : Int))) = true then
    m50_2 (s) (n + (1 : Int))
 else none
 else
 some ((n,()),())
 else none
 else none
 else
 some ((n,()),()) := Env.cut_eq' (E := Tryz.m50.E) (f0 := 3000) (c := 2) (q := ⟨[[0,0,0,0,0,0,1,1],[0,1,0,0,0,0,1,1],[0,1,0,0,0,1,1],[2,0,0,0,1,1],[1,0],[0,1,1,1]],[0,3],0,⟨[.fd .str,.fd (.int .i64)],[]⟩⟩) (by kernel_rfl) ((s,n,()),()) (by kernel_rfl) (by kernel_rfl)
def Tryz.m51.p : Pln := ⟨[],0,⟨[.fd .str],[]⟩,⟨[.fd .bool],[]⟩,true,[],[]⟩
noncomputable def Tryz.m51.E : Env En.Dop.D4 := envOf Tryz.prog 51 Tryz.tb [Tryz.contains.c] Tryz.m51.p
theorem Tryz.m51.ok : plnOk En.Dop.D4 Tryz.prog 51 Tryz.m51.p = true := by kernel_rfl
noncomputable def Tryz.m51.c : Ctr En.Dop.D4 := ⟨51,Tryz.m51.p.bn,Tryz.m51.p.sp,Tryz.m51.p.rs,Tryz.m51.p.flat,.opt (Tryz.m51.E.run 3000 Tryz.m51.p.sp)⟩
theorem Tryz.m51.holds : Tryz.m51.c.Holds Tryz.prog := fun_ctr 3000 Tryz.tbOk (hct_cons Tryz.contains.holds hct_nil) Tryz.m51.ok
noncomputable def Tryz.m51 (w : List UInt8) : Option (Spec.D En.Dop.D4 ⟨[.fd .bool],[]⟩) := Tryz.m51.E.run 3000 Tryz.m51.p.sp ((w,()),())
theorem Tryz.m51_eq (w : List UInt8) : m51 w =
 if (!decide (w = @List.nil UInt8)) = true then
 if (okS w) = true then
 if (!Lib.contains w ([32] : List UInt8)) = true then
 if (decide (([32] : List UInt8).length + w.length ≤ (9223372036854775807 : Nat))) = true then
 if (decide (((32 : UInt8) :: @List.nil UInt8 ++ w).length + ([32] : List UInt8).length ≤ (9223372036854775807 : Nat))) = true then
 if (okS (([32,98,114,101,97,107,32,99,97,115,101,32,99,104,97,114,32,99,111,110,116,105,110,117,101,32,100,101,102,97,117,108,116,32,100,111,32,101,108,115,101,32,102,111,114,32,103,101,116,99,32,103,111,116,111,32,105,102] : List UInt8).append ([32,105,110,116,32,112,117,116,99,32,114,101,116,117,114,110,32,115,105,122,101,111,102,32,115,116,114,117,99,116,32,115,119,105,116,99,104,32,117,110,115,105,103,110,101,100,32,118,111,105,100,32,119,104,105,108,101,32] : List UInt8))) = true then
 some ((Lib.contains (([32,98,114,101,97,107,32,99,97,115,101,32,99,104,97,114,32,99,111,110,116,105,110,117,101,32,100,101,102,97,117,108,116,32,100,111,32,101,108,115,101,32,102,111,114,32,103,101,116,99,32,103,111,116,111,32,105,102] : List UInt8).append ([32,105,110,116,32,112,117,116,99,32,114,101,116,117,114,110,32,115,105,122,101,111,102,32,115,116,114,117,99,116,32,115,119,105,116,99,104,32,117,110,115,105,103,110,101,100,32,118,111,105,100,32,119,104,105,108,101,32] : List UInt8)) ((32 : UInt8) :: @List.nil UInt8 ++ w ++ (32 : UInt8) :: @List.nil UInt8),()),())
 else none
 else none
 else none
 else
 some ((false,()),())
 else none
 else
 some ((false,()),()) := by kernel_rfl
def Tryz.m48.p : Pln := ⟨[],1,⟨[.fd (.int .i64),.fd (.int .i64),.fd (.int .i64),.al 0 0],[⟨0,9,[.st 1],false⟩]⟩,⟨[.st 4,.fd (.int .i64)],[⟨0,9,[.fd .str],false⟩]⟩,true,[],[]⟩
noncomputable def Tryz.m48.E : Env En.Dop.D4 := envOf Tryz.prog 48 Tryz.tb [] Tryz.m48.p
theorem Tryz.m48.ok : plnOk En.Dop.D4 Tryz.prog 48 Tryz.m48.p = true := by kernel_rfl
noncomputable def Tryz.m48.c : Ctr En.Dop.D4 := ⟨48,Tryz.m48.p.bn,Tryz.m48.p.sp,Tryz.m48.p.rs,Tryz.m48.p.flat,.opt (Tryz.m48.E.run 3000 Tryz.m48.p.sp)⟩
theorem Tryz.m48.holds : Tryz.m48.c.Holds Tryz.prog := fun_ctr 3000 Tryz.tbOk hct_nil Tryz.m48.ok
noncomputable def Tryz.m48 (kind : Int) (n : Int) (size : Int) (b0 : List UInt8) : Option (Spec.D En.Dop.D4 ⟨[.st 4,.fd (.int .i64)],[⟨0,9,[.fd .str],false⟩]⟩) := Tryz.m48.E.run 3000 Tryz.m48.p.sp ((kind,n,size,(),()),((b0,()),()))
theorem Tryz.m48_eq (kind : Int) (n : Int) (size : Int) (b0 : List UInt8) : m48 kind n size b0 =
 if (decide ((0 : Int) ≤ (0 : Int) ∧ (0 : Int) ≤ size ∧ size ≤ I b0.length)) = true then
 some ((Dop.Tok.mk kind (List.drop (Int.toNat (0 : Int)) (List.take size.toNat b0)) n (0 : Int),((0 : Int),())),((b0,()),()))
 else none := by kernel_rfl
def Tryz.m53.p : Pln := ⟨[(9,⟨[[0,0,0,0,1,0,1,1,1,1,1],[0,1,0,0,1,0,1,1,1,1,1],[2,0,0,1,0,1,1,1,1,1],[1,0],[0,1,1,1,1,1,1]],[0,5,6,34,35],0,⟨[.fd .str,.fd (.int .i64),.fd (.int .i64),.fd (.int .i64),.fd (.int .i64)],[]⟩⟩)],0,⟨[.fd .str],[]⟩,⟨[.fd (.int .i64),.fd .bool],[]⟩,true,[(6,⟨[(0,true),(2,true)],[1,3],[0,1,0,7],false⟩)],[]⟩
noncomputable def Tryz.m53.E : Env En.Dop.D4 := envOf Tryz.prog 53 Tryz.tb [Tryz.hasPrefix.c,Tryz.lower.c,Tryz.indexByte.c] Tryz.m53.p
theorem Tryz.m53.ok : plnOk En.Dop.D4 Tryz.prog 53 Tryz.m53.p = true := by kernel_rfl
noncomputable def Tryz.m53.c : Ctr En.Dop.D4 := ⟨53,Tryz.m53.p.bn,Tryz.m53.p.sp,Tryz.m53.p.rs,Tryz.m53.p.flat,.opt (Tryz.m53.E.run 3000 Tryz.m53.p.sp)⟩
theorem Tryz.m53.holds : Tryz.m53.c.Holds Tryz.prog := fun_ctr 3000 Tryz.tbOk (hct_cons Tryz.hasPrefix.holds (hct_cons Tryz.lower.holds (hct_cons Tryz.indexByte.holds hct_nil))) Tryz.m53.ok
noncomputable def Tryz.m53 (s : List UInt8) : Option (Spec.D En.Dop.D4 ⟨[.fd (.int .i64),.fd .bool],[]⟩) := Tryz.m53.E.run 3000 Tryz.m53.p.sp ((s,()),())
noncomputable def Tryz.m53_9 (s : List UInt8) (base : Int) (n : Int) (t34 : Int) (t35 : Int) : Option (Spec.D En.Dop.D4 ⟨[.fd (.int .i64),.fd .bool],[]⟩) := Tryz.m53.E.cut 3000 9 ((s,base,n,t34,t35,()),())
theorem Tryz.m53_eq (s : List UInt8) : m53 s =
 if (inR (I s.length - (1 : Int))) = true then
 if (decide ((0 : Int) ≤ I s.length - (1 : Int) ∧ I s.length - (1 : Int) < I s.length)) = true then
 if (decide (strAt s (I s.length - (1 : Int)) = (117 : Int))) = true then
 if (decide ((0 : Int) ≤ (0 : Int) ∧ (0 : Int) ≤ I s.length - (1 : Int) ∧ I s.length - (1 : Int) ≤ I s.length)) = true then
 if (true) = true then
 if (Lib.hasPrefix (List.drop (Int.toNat (0 : Int)) (List.take (I s.length - (1 : Int)).toNat s)) ([48,120] : List UInt8)) = true then
 if (decide ((0 : Int) ≤ (2 : Int) ∧ (2 : Int) ≤ I (List.drop (Int.toNat (0 : Int)) (List.take (I s.length - (1 : Int)).toNat s)).length ∧ I (List.drop (Int.toNat (0 : Int)) (List.take (I s.length - (1 : Int)).toNat s)).length ≤ I (List.drop (Int.toNat (0 : Int)) (List.take (I s.length - (1 : Int)).toNat s)).length)) = true then
  m53_9 (List.drop (Int.toNat (2 : Int)) (List.take (I (List.drop (Int.toNat (0 : Int)) (List.take (I s.length - (1 : Int)).toNat s)).length).toNat (List.drop (Int.toNat (0 : Int)) (List.take (I s.length - (1 : Int)).toNat s)))) ((16 : Int)) ((0 : Int)) (I (List.drop (Int.toNat (2 : Int)) (List.take (I (List.drop (Int.toNat (0 : Int)) (List.take (I s.length - (1 : Int)).toNat s)).length).toNat (List.drop (Int.toNat (0 : Int)) (List.take (I s.length - (1 : Int)).toNat s)))).length) ((0 : Int))
 else none
 else
 if (true) = true then
 if (Lib.hasPrefix (List.drop (Int.toNat (0 : Int)) (List.take (I s.length - (1 : Int)).toNat s)) ([48,88] : List UInt8)) = true then
 if (decide ((0 : Int) ≤ (2 : Int) ∧ (2 : Int) ≤ I (List.drop (Int.toNat (0 : Int)) (List.take (I s.length - (1 : Int)).toNat s)).length ∧ I (List.drop (Int.toNat (0 : Int)) (List.take (I s.length - (1 : Int)).toNat s)).length ≤ I (List.drop (Int.toNat (0 : Int)) (List.take (I s.length - (1 : Int)).toNat s)).length)) = true then
   m53_9 (List.drop (Int.toNat (2 : Int)) (List.take (I (List.drop (Int.toNat (0 : Int)) (List.take (I s.length - (1 : Int)).toNat s)).length).toNat (List.drop (Int.toNat (0 : Int)) (List.take (I s.length - (1 : Int)).toNat s)))) ((16 : Int)) ((0 : Int)) (I (List.drop (Int.toNat (2 : Int)) (List.take (I (List.drop (Int.toNat (0 : Int)) (List.take (I s.length - (1 : Int)).toNat s)).length).toNat (List.drop (Int.toNat (0 : Int)) (List.take (I s.length - (1 : Int)).toNat s)))).length) ((0 : Int))
 else none
 else
   m53_9 (List.drop (Int.toNat (0 : Int)) (List.take (I s.length - (1 : Int)).toNat s)) ((10 : Int)) ((0 : Int)) (I (List.drop (Int.toNat (0 : Int)) (List.take (I s.length - (1 : Int)).toNat s)).length) ((0 : Int))
 else none
 else none
 else none
 else
 if (decide ((0 : Int) ≤ I s.length - (1 : Int) ∧ I s.length - (1 : Int) < I s.length)) = true then
 if (decide (strAt s (I s.length - (1 : Int)) = (85 : Int))) = true then
 if (decide ((0 : Int) ≤ (0 : Int) ∧ (0 : Int) ≤ I s.length - (1 : Int) ∧ I s.length - (1 : Int) ≤ I s.length)) = true then
 if (true) = true then
 if (Lib.hasPrefix (List.drop (Int.toNat (0 : Int)) (List.take (I s.length - (1 : Int)).toNat s)) ([48,120] : List UInt8)) = true then
 if (decide ((0 : Int) ≤ (2 : Int) ∧ (2 : Int) ≤ I (List.drop (Int.toNat (0 : Int)) (List.take (I s.length - (1 : Int)).toNat s)).length ∧ I (List.drop (Int.toNat (0 : Int)) (List.take (I s.length - (1 : Int)).toNat s)).length ≤ I (List.drop (Int.toNat (0 : Int)) (List.take (I s.length - (1 : Int)).toNat s)).length)) = true then
   m53_9 (List.drop (Int.toNat (2 : Int)) (List.take (I (List.drop (Int.toNat (0 : Int)) (List.take (I s.length - (1 : Int)).toNat s)).length).toNat (List.drop (Int.toNat (0 : Int)) (List.take (I s.length - (1 : Int)).toNat s)))) ((16 : Int)) ((0 : Int)) (I (List.drop (Int.toNat (2 : Int)) (List.take (I (List.drop (Int.toNat (0 : Int)) (List.take (I s.length - (1 : Int)).toNat s)).length).toNat (List.drop (Int.toNat (0 : Int)) (List.take (I s.length - (1 : Int)).toNat s)))).length) ((0 : Int))
 else none
 else
 if (true) = true then
 if (Lib.hasPrefix (List.drop (Int.toNat (0 : Int)) (List.take (I s.length - (1 : Int)).toNat s)) ([48,88] : List UInt8)) = true then
 if (decide ((0 : Int) ≤ (2 : Int) ∧ (2 : Int) ≤ I (List.drop (Int.toNat (0 : Int)) (List.take (I s.length - (1 : Int)).toNat s)).length ∧ I (List.drop (Int.toNat (0 : Int)) (List.take (I s.length - (1 : Int)).toNat s)).length ≤ I (List.drop (Int.toNat (0 : Int)) (List.take (I s.length - (1 : Int)).toNat s)).length)) = true then
   m53_9 (List.drop (Int.toNat (2 : Int)) (List.take (I (List.drop (Int.toNat (0 : Int)) (List.take (I s.length - (1 : Int)).toNat s)).length).toNat (List.drop (Int.toNat (0 : Int)) (List.take (I s.length - (1 : Int)).toNat s)))) ((16 : Int)) ((0 : Int)) (I (List.drop (Int.toNat (2 : Int)) (List.take (I (List.drop (Int.toNat (0 : Int)) (List.take (I s.length - (1 : Int)).toNat s)).length).toNat (List.drop (Int.toNat (0 : Int)) (List.take (I s.length - (1 : Int)).toNat s)))).length) ((0 : Int))
 else none
 else
   m53_9 (List.drop (Int.toNat (0 : Int)) (List.take (I s.length - (1 : Int)).toNat s)) ((10 : Int)) ((0 : Int)) (I (List.drop (Int.toNat (0 : Int)) (List.take (I s.length - (1 : Int)).toNat s)).length) ((0 : Int))
 else none
 else none
 else none
 else
 if (true) = true then
 if (Lib.hasPrefix s ([48,120] : List UInt8)) = true then
 if (decide ((0 : Int) ≤ (2 : Int) ∧ (2 : Int) ≤ I s.length ∧ I s.length ≤ I s.length)) = true then
   m53_9 (List.drop (Int.toNat (2 : Int)) (List.take (I s.length).toNat s)) ((16 : Int)) ((0 : Int)) (I (List.drop (Int.toNat (2 : Int)) (List.take (I s.length).toNat s)).length) ((0 : Int))
 else none
 else
 if (true) = true then
 if (Lib.hasPrefix s ([48,88] : List UInt8)) = true then
 if (decide ((0 : Int) ≤ (2 : Int) ∧ (2 : Int) ≤ I s.length ∧ I s.length ≤ I s.length)) = true then
   m53_9 (List.drop (Int.toNat (2 : Int)) (List.take (I s.length).toNat s)) ((16 : Int)) ((0 : Int)) (I (List.drop (Int.toNat (2 : Int)) (List.take (I s.length).toNat s)).length) ((0 : Int))
 else none
 else
   m53_9 (s) ((10 : Int)) ((0 : Int)) (I s.length) ((0 : Int))
 else none
 else none
 else none
 else none
 else none := by kernel_rfl
theorem Tryz.m53_9_eq (s : List UInt8) (base : Int) (n : Int) (t34 : Int) (t35 : Int) : m53_9 s base n t34 t35 =
 if (decide (t35 < t34)) = true then
 if (inR (t35 + (1 : Int))) = true then
 if (decide ((0 : Int) ≤ t35 ∧ t35 ≤ t35 + (1 : Int) ∧ t35 + (1 : Int) ≤ I s.length)) = true then
 if (okL (List.drop t35.toNat (List.take (t35 + (1 : Int)).toNat s))) = true then
 if (decide ((0 : Int) ≤ (0 : Int) ∧ (0 : Int) < I (Lib.toLowerA (List.drop t35.toNat (List.take (t35 + (1 : Int)).toNat s))).length)) = true then
 if (true) = true then
 if (decide (Lib.indexByte ([48,49,50,51,52,53,54,55,56,57,97,98,99,100,101,102] : List UInt8) (strAt (Lib.toLowerA (List.drop t35.toNat (List.take (t35 + (1 : Int)).toNat s))) (0 : Int)).toNat.toUInt8 < (0 : Int))) = true then
 some (((0 : Int),(false,())),())
 else
 if (decide (base ≤ Lib.indexByte ([48,49,50,51,52,53,54,55,56,57,97,98,99,100,101,102] : List UInt8) (strAt (Lib.toLowerA (List.drop t35.toNat (List.take (t35 + (1 : Int)).toNat s))) (0 : Int)).toNat.toUInt8)) = true then
 some (((0 : Int),(false,())),())
 else
 if (inR (n * base)) = true then
 if (inR (n * base + Lib.indexByte ([48,49,50,51,52,53,54,55,56,57,97,98,99,100,101,102] : List UInt8) (strAt (Lib.toLowerA (List.drop t35.toNat (List.take (t35 + (1 : Int)).toNat s))) (0 : Int)).toNat.toUInt8)) = true then
 if (decide ((4294967295 : Int) < n * base + Lib.indexByte ([48,49,50,51,52,53,54,55,56,57,97,98,99,100,101,102] : List UInt8) (strAt (Lib.toLowerA (List.drop t35.toNat (List.take (t35 + (1 : Int)).toNat s))) (0 : Int)).toNat.toUInt8)) = true then
 some (((0 : Int),(false,())),())
 else
 if (inR (t35 + (1 : Int))) = true then
   m53_9 (s) (base) (n * base + Lib.indexByte ([48,49,50,51,52,53,54,55,56,57,97,98,99,100,101,102] : List UInt8) (strAt (Lib.toLowerA (List.drop t35.toNat (List.take (t35 + (1 : Int)).toNat s))) (0 : Int)).toNat.toUInt8) (t34) (t35 + (1 : Int))
 else none
 else none
 else none
 else none
 else none
 else none
 else none
 else none
 else
 some ((n,(!decide (s = @List.nil UInt8),())),()) := Env.cut_eq' (E := Tryz.m53.E) (f0 := 3000) (c := 9) (q := ⟨[[0,0,0,0,1,0,1,1,1,1,1],[0,1,0,0,1,0,1,1,1,1,1],[2,0,0,1,0,1,1,1,1,1],[1,0],[0,1,1,1,1,1,1]],[0,5,6,34,35],0,⟨[.fd .str,.fd (.int .i64),.fd (.int .i64),.fd (.int .i64),.fd (.int .i64)],[]⟩⟩) (by kernel_rfl) ((s,base,n,t34,t35,()),()) (by kernel_rfl) (by kernel_rfl)
def Tryz.m54.p : Pln := ⟨[],0,⟨[.fd .str],[]⟩,⟨[.fd (.int .i64),.fd (.int .i64)],[]⟩,true,[],[]⟩
noncomputable def Tryz.m54.E : Env En.Dop.D4 := envOf Tryz.prog 54 Tryz.tb [] Tryz.m54.p
theorem Tryz.m54.ok : plnOk En.Dop.D4 Tryz.prog 54 Tryz.m54.p = true := by kernel_rfl
noncomputable def Tryz.m54.c : Ctr En.Dop.D4 := ⟨54,Tryz.m54.p.bn,Tryz.m54.p.sp,Tryz.m54.p.rs,Tryz.m54.p.flat,.opt (Tryz.m54.E.run 3000 Tryz.m54.p.sp)⟩
theorem Tryz.m54.holds : Tryz.m54.c.Holds Tryz.prog := fun_ctr 3000 Tryz.tbOk hct_nil Tryz.m54.ok
noncomputable def Tryz.m54 (s : List UInt8) : Option (Spec.D En.Dop.D4 ⟨[.fd (.int .i64),.fd (.int .i64)],[]⟩) := Tryz.m54.E.run 3000 Tryz.m54.p.sp ((s,()),())
theorem Tryz.m54_eq (s : List UInt8) : m54 s =
 if (decide ((4 : Int) ≤ I s.length)) = true then
 if (decide ((0 : Int) ≤ (1 : Int) ∧ (1 : Int) < I s.length)) = true then
 if (decide (strAt s (1 : Int) = (92 : Int))) = true then
 if (decide ((0 : Int) ≤ (3 : Int) ∧ (3 : Int) < I s.length)) = true then
 if (decide (strAt s (3 : Int) = (39 : Int))) = true then
 if (decide ((0 : Int) ≤ (2 : Int) ∧ (2 : Int) < I s.length)) = true then
 if ((mlookI (mputI (mputI (mputI (mputI (mputI (@List.nil (Int × Int)) (110 : Int) (10 : Int)) (116 : Int) (9 : Int)) (48 : Int) (0 : Int)) (92 : Int) (92 : Int)) (39 : Int) (39 : Int)) (strAt s (2 : Int))).isSome) = true then
 some (((mlookI (mputI (mputI (mputI (mputI (mputI (@List.nil (Int × Int)) (110 : Int) (10 : Int)) (116 : Int) (9 : Int)) (48 : Int) (0 : Int)) (92 : Int) (92 : Int)) (39 : Int) (39 : Int)) (strAt s (2 : Int))).getD (0 : Int),((4 : Int),())),())
 else
 some (((0 : Int),((0 : Int),())),())
 else none
 else
 if (decide ((3 : Int) ≤ I s.length)) = true then
 if (decide ((0 : Int) ≤ (1 : Int) ∧ (1 : Int) < I s.length)) = true then
 if (!decide (strAt s (1 : Int) = (39 : Int))) = true then
 if (decide ((0 : Int) ≤ (1 : Int) ∧ (1 : Int) < I s.length)) = true then
 if (!decide (strAt s (1 : Int) = (92 : Int))) = true then
 if (decide ((0 : Int) ≤ (1 : Int) ∧ (1 : Int) < I s.length)) = true then
 if (!decide (strAt s (1 : Int) = (10 : Int))) = true then
 if (decide ((0 : Int) ≤ (2 : Int) ∧ (2 : Int) < I s.length)) = true then
 if (decide (strAt s (2 : Int) = (39 : Int))) = true then
 if (decide ((0 : Int) ≤ (1 : Int) ∧ (1 : Int) < I s.length)) = true then
 if (inR (strAt s (1 : Int))) = true then
 some ((strAt s (1 : Int),((3 : Int),())),())
 else none
 else none
 else
 some (((0 : Int),((0 : Int),())),())
 else none
 else
 some (((0 : Int),((0 : Int),())),())
 else none
 else
 some (((0 : Int),((0 : Int),())),())
 else none
 else
 some (((0 : Int),((0 : Int),())),())
 else none
 else
 some (((0 : Int),((0 : Int),())),())
 else none
 else
 if (decide ((3 : Int) ≤ I s.length)) = true then
 if (decide ((0 : Int) ≤ (1 : Int) ∧ (1 : Int) < I s.length)) = true then
 if (!decide (strAt s (1 : Int) = (39 : Int))) = true then
 if (decide ((0 : Int) ≤ (1 : Int) ∧ (1 : Int) < I s.length)) = true then
 if (!decide (strAt s (1 : Int) = (92 : Int))) = true then
 if (decide ((0 : Int) ≤ (1 : Int) ∧ (1 : Int) < I s.length)) = true then
 if (!decide (strAt s (1 : Int) = (10 : Int))) = true then
 if (decide ((0 : Int) ≤ (2 : Int) ∧ (2 : Int) < I s.length)) = true then
 if (decide (strAt s (2 : Int) = (39 : Int))) = true then
 if (decide ((0 : Int) ≤ (1 : Int) ∧ (1 : Int) < I s.length)) = true then
 if (inR (strAt s (1 : Int))) = true then
 some ((strAt s (1 : Int),((3 : Int),())),())
 else none
 else none
 else
 some (((0 : Int),((0 : Int),())),())
 else none
 else
 some (((0 : Int),((0 : Int),())),())
 else none
 else
 some (((0 : Int),((0 : Int),())),())
 else none
 else
 some (((0 : Int),((0 : Int),())),())
 else none
 else
 some (((0 : Int),((0 : Int),())),())
 else none
 else
 if (decide ((3 : Int) ≤ I s.length)) = true then
 if (decide ((0 : Int) ≤ (1 : Int) ∧ (1 : Int) < I s.length)) = true then
 if (!decide (strAt s (1 : Int) = (39 : Int))) = true then
 if (decide ((0 : Int) ≤ (1 : Int) ∧ (1 : Int) < I s.length)) = true then
 if (!decide (strAt s (1 : Int) = (92 : Int))) = true then
 if (decide ((0 : Int) ≤ (1 : Int) ∧ (1 : Int) < I s.length)) = true then
 if (!decide (strAt s (1 : Int) = (10 : Int))) = true then
 if (decide ((0 : Int) ≤ (2 : Int) ∧ (2 : Int) < I s.length)) = true then
 if (decide (strAt s (2 : Int) = (39 : Int))) = true then
 if (decide ((0 : Int) ≤ (1 : Int) ∧ (1 : Int) < I s.length)) = true then
 if (inR (strAt s (1 : Int))) = true then
 some ((strAt s (1 : Int),((3 : Int),())),())
 else none
 else none
 else
 some (((0 : Int),((0 : Int),())),())
 else none
 else
 some (((0 : Int),((0 : Int),())),())
 else none
 else
 some (((0 : Int),((0 : Int),())),())
 else none
 else
 some (((0 : Int),((0 : Int),())),())
 else none
 else
 some (((0 : Int),((0 : Int),())),()) := by kernel_rfl
def Tryz.m80.p : Pln := ⟨[],0,⟨[],[]⟩,⟨[.own 1 9],[]⟩,true,[],[]⟩
noncomputable def Tryz.m80.E : Env En.Dop.D4 := envOf Tryz.prog 80 Tryz.tb [Tryz.fields.c] Tryz.m80.p
theorem Tryz.m80.ok : plnOk En.Dop.D4 Tryz.prog 80 Tryz.m80.p = true := by kernel_rfl
noncomputable def Tryz.m80.c : Ctr En.Dop.D4 := ⟨80,Tryz.m80.p.bn,Tryz.m80.p.sp,Tryz.m80.p.rs,Tryz.m80.p.flat,.opt (Tryz.m80.E.run 3000 Tryz.m80.p.sp)⟩
theorem Tryz.m80.holds : Tryz.m80.c.Holds Tryz.prog := fun_ctr 3000 Tryz.tbOk (hct_cons Tryz.fields.holds hct_nil) Tryz.m80.ok
noncomputable def Tryz.m80 : Option (Spec.D En.Dop.D4 ⟨[.own 1 9],[]⟩) := Tryz.m80.E.run 3000 Tryz.m80.p.sp ((),())
theorem Tryz.m80_eq : m80 =
 if (okL (([60,60,61,32,62,62,61,32,43,43,32,45,45,32,45,62,32,43,61,32,45,61,32,42,61,32,47,61,32,37,61,32,38,61,32,124,61,32,94,61,32,60,60,32,62,62,32,60,61,32,62,61,32,61,61,32] : List UInt8).append ([33,61,32,38,38,32,124,124,32,43,32,45,32,42,32,47,32,37,32,38,32,124,32,94,32,126,32,33,32,60,32,62,32,61,32,63,32,58,32,59,32,44,32,46,32,40,32,41,32,91,32,93,32,123,32,125] : List UInt8)) && decide ((Lib.fields (([60,60,61,32,62,62,61,32,43,43,32,45,45,32,45,62,32,43,61,32,45,61,32,42,61,32,47,61,32,37,61,32,38,61,32,124,61,32,94,61,32,60,60,32,62,62,32,60,61,32,62,61,32,61,61,32] : List UInt8).append ([33,61,32,38,38,32,124,124,32,43,32,45,32,42,32,47,32,37,32,38,32,124,32,94,32,126,32,33,32,60,32,62,32,61,32,63,32,58,32,59,32,44,32,46,32,40,32,41,32,91,32,93,32,123,32,125] : List UInt8))).length ≤ maxLen)) = true then
 some ((List.map (fun (a : List UInt8) => a) (Lib.fields (([60,60,61,32,62,62,61,32,43,43,32,45,45,32,45,62,32,43,61,32,45,61,32,42,61,32,47,61,32,37,61,32,38,61,32,124,61,32,94,61,32,60,60,32,62,62,32,60,61,32,62,61,32,61,61,32] : List UInt8).append ([33,61,32,38,38,32,124,124,32,43,32,45,32,42,32,47,32,37,32,38,32,124,32,94,32,126,32,33,32,60,32,62,32,61,32,63,32,58,32,59,32,44,32,46,32,40,32,41,32,91,32,93,32,123,32,125] : List UInt8))),()),())
 else none := by kernel_rfl
def Tryz.m55.p : Pln := ⟨[(2,⟨[[0,0,0,0,1,0,1],[0,1,0,0,1,0,1],[2,0,0,1,0,1],[1,0],[0,1,1]],[0,5,6,7],0,⟨[.fd .str,.own 1 9,.fd (.int .i64),.fd (.int .i64)],[]⟩⟩)],0,⟨[.fd .str],[]⟩,⟨[.fd .str],[]⟩,true,[],[]⟩
noncomputable def Tryz.m55.E : Env En.Dop.D4 := envOf Tryz.prog 55 Tryz.tb [Tryz.m80.c,Tryz.hasPrefix.c] Tryz.m55.p
theorem Tryz.m55.ok : plnOk En.Dop.D4 Tryz.prog 55 Tryz.m55.p = true := by kernel_rfl
noncomputable def Tryz.m55.c : Ctr En.Dop.D4 := ⟨55,Tryz.m55.p.bn,Tryz.m55.p.sp,Tryz.m55.p.rs,Tryz.m55.p.flat,.opt (Tryz.m55.E.run 3000 Tryz.m55.p.sp)⟩
theorem Tryz.m55.holds : Tryz.m55.c.Holds Tryz.prog := fun_ctr 3000 Tryz.tbOk (hct_cons Tryz.m80.holds (hct_cons Tryz.hasPrefix.holds hct_nil)) Tryz.m55.ok
noncomputable def Tryz.m55 (s : List UInt8) : Option (Spec.D En.Dop.D4 ⟨[.fd .str],[]⟩) := Tryz.m55.E.run 3000 Tryz.m55.p.sp ((s,()),())
noncomputable def Tryz.m55_2 (s : List UInt8) (t5 : List (List UInt8)) (t6 : Int) (t7 : Int) : Option (Spec.D En.Dop.D4 ⟨[.fd .str],[]⟩) := Tryz.m55.E.cut 3000 2 ((s,t5,t6,t7,()),())
theorem Tryz.m55_eq (s : List UInt8) : m55 s =
 (m80).bind fun y2 =>
  m55_2 (s) y2.1.1 (I y2.1.1.length) ((0 : Int)) := by kernel_rfl
theorem Tryz.m55_2_eq (s : List UInt8) (t5 : List (List UInt8)) (t6 : Int) (t7 : Int) : m55_2 s t5 t6 t7 =
 if (decide (t7 < t6)) = true then
 if (decide ((0 : Int) ≤ t7 ∧ t7 < I t5.length)) = true then
 if (decide (t7.toNat < t5.length)) = true then
 if (true) = true then
 if (Lib.hasPrefix s (@List.getD (List UInt8) t5 t7.toNat (@List.nil UInt8))) = true then
 some ((@List.getD (List UInt8) t5 t7.toNat (@List.nil UInt8),()),())
 else
 if (inR (t7 + (1 : Int))) = true then
  m55_2 (s) (t5) (t6) (t7 + (1 : Int))
 else none
 else none
 else none
 else none
 else
 some ((@List.nil UInt8,()),()) := Env.cut_eq' (E := Tryz.m55.E) (f0 := 3000) (c := 2) (q := ⟨[[0,0,0,0,1,0,1],[0,1,0,0,1,0,1],[2,0,0,1,0,1],[1,0],[0,1,1]],[0,5,6,7],0,⟨[.fd .str,.own 1 9,.fd (.int .i64),.fd (.int .i64)],[]⟩⟩) (by kernel_rfl) ((s,t5,t6,t7,()),()) (by kernel_rfl) (by kernel_rfl)
def Tryz.m31.p : Pln := ⟨[],0,⟨[.fd .str],[]⟩,⟨[.st 4,.fd (.int .i64)],[]⟩,true,[],[]⟩
noncomputable def Tryz.m31.E : Env En.Dop.D4 := envOf Tryz.prog 31 Tryz.tb [Tryz.m49.c,Tryz.m50.c,Tryz.m51.c,Tryz.m48.c,Tryz.m52.c,Tryz.m53.c,Tryz.m54.c,Tryz.m55.c] Tryz.m31.p
theorem Tryz.m31.ok : plnOk En.Dop.D4 Tryz.prog 31 Tryz.m31.p = true := by kernel_rfl
noncomputable def Tryz.m31.c : Ctr En.Dop.D4 := ⟨31,Tryz.m31.p.bn,Tryz.m31.p.sp,Tryz.m31.p.rs,Tryz.m31.p.flat,.opt (Tryz.m31.E.run 3000 Tryz.m31.p.sp)⟩
theorem Tryz.m31.holds : Tryz.m31.c.Holds Tryz.prog := fun_ctr 3000 Tryz.tbOk (hct_cons Tryz.m49.holds (hct_cons Tryz.m50.holds (hct_cons Tryz.m51.holds (hct_cons Tryz.m48.holds (hct_cons Tryz.m52.holds (hct_cons Tryz.m53.holds (hct_cons Tryz.m54.holds (hct_cons Tryz.m55.holds hct_nil)))))))) Tryz.m31.ok
noncomputable def Tryz.m31 (o : List UInt8) : Option (Spec.D En.Dop.D4 ⟨[.st 4,.fd (.int .i64)],[]⟩) := Tryz.m31.E.run 3000 Tryz.m31.p.sp ((o,()),())
theorem Tryz.m31_eq (o : List UInt8) : m31 o =
 if (decide ((0 : Int) ≤ (0 : Int) ∧ (0 : Int) < I o.length)) = true then
 (m49 (strAt o (0 : Int))).bind fun y2 =>
 if y2.1.1 = true then
  (m50 (o)).bind fun y4 =>
 if (decide ((0 : Int) ≤ (0 : Int) ∧ (0 : Int) ≤ y4.1.1 ∧ y4.1.1 ≤ I o.length)) = true then
   (m51 (List.drop (Int.toNat (0 : Int)) (List.take y4.1.1.toNat o))).bind fun y5 =>
 if y5.1.1 = true then
    (m48 ((2 : Int)) ((0 : Int)) y4.1.1 (o)).bind fun y7 =>
 some ((y7.1.1,(y7.1.2.1,())),())
 else
    (m48 ((1 : Int)) ((0 : Int)) y4.1.1 (o)).bind fun y7 =>
 some ((y7.1.1,(y7.1.2.1,())),())
 else none
 else
 if (decide ((0 : Int) ≤ (0 : Int) ∧ (0 : Int) < I o.length)) = true then
  (m52 (strAt o (0 : Int))).bind fun y4 =>
 if y4.1.1 = true then
   (m50 (o)).bind fun y6 =>
 if (decide ((0 : Int) ≤ (0 : Int) ∧ (0 : Int) ≤ y6.1.1 ∧ y6.1.1 ≤ I o.length)) = true then
    (m53 (List.drop (Int.toNat (0 : Int)) (List.take y6.1.1.toNat o))).bind fun y7 =>
 if (!y7.1.2.1) = true then
 some ((Dop.Tok.mk (0 : Int) (@List.nil UInt8) (0 : Int) (0 : Int),((3 : Int),())),())
 else
     (m48 ((3 : Int)) y7.1.1 y6.1.1 (o)).bind fun y9 =>
 some ((y9.1.1,(y9.1.2.1,())),())
 else none
 else
 if (decide ((0 : Int) ≤ (0 : Int) ∧ (0 : Int) < I o.length)) = true then
 if (decide (strAt o (0 : Int) = (39 : Int))) = true then
    (m54 (o)).bind fun y7 =>
 if (decide ((0 : Int) < y7.1.2.1)) = true then
     (m48 ((3 : Int)) y7.1.1 y7.1.2.1 (o)).bind fun y9 =>
 some ((y9.1.1,(y9.1.2.1,())),())
 else
 some ((Dop.Tok.mk (0 : Int) (@List.nil UInt8) (0 : Int) (0 : Int),((2 : Int),())),())
 else
    (m55 (o)).bind fun y7 =>
 if (!decide (y7.1.1 = @List.nil UInt8)) = true then
     (m48 ((4 : Int)) ((0 : Int)) (I y7.1.1.length) (o)).bind fun y9 =>
 some ((y9.1.1,(y9.1.2.1,())),())
 else
 some ((Dop.Tok.mk (0 : Int) (@List.nil UInt8) (0 : Int) (0 : Int),((2 : Int),())),())
 else none
 else none
 else none := by kernel_rfl
def Tryz.m13.p : Pln := ⟨[(5,⟨[[0,0,0,0,0,1,1,1,1],[0,1,0,0,0,1,1,1,1],[1,1],[2,0,0,1,1,1,1],[1,0]],[0,5,6],0,⟨[.fd .str,.own 4 72,.fd (.int .i64)],[]⟩⟩)],0,⟨[.fd .str],[]⟩,⟨[.own 4 72,.fd (.int .i64),.fd (.int .i64)],[]⟩,true,[],[]⟩
noncomputable def Tryz.m13.E : Env En.Dop.D4 := envOf Tryz.prog 13 Tryz.tb [Tryz.m30.c,Tryz.m31.c] Tryz.m13.p
theorem Tryz.m13.ok : plnOk En.Dop.D4 Tryz.prog 13 Tryz.m13.p = true := by kernel_rfl
noncomputable def Tryz.m13.c : Ctr En.Dop.D4 := ⟨13,Tryz.m13.p.bn,Tryz.m13.p.sp,Tryz.m13.p.rs,Tryz.m13.p.flat,.opt (Tryz.m13.E.run 3000 Tryz.m13.p.sp)⟩
theorem Tryz.m13.holds : Tryz.m13.c.Holds Tryz.prog := fun_ctr 3000 Tryz.tbOk (hct_cons Tryz.m30.holds (hct_cons Tryz.m31.holds hct_nil)) Tryz.m13.ok
noncomputable def Tryz.m13 (s : List UInt8) : Option (Spec.D En.Dop.D4 ⟨[.own 4 72,.fd (.int .i64),.fd (.int .i64)],[]⟩) := Tryz.m13.E.run 3000 Tryz.m13.p.sp ((s,()),())
noncomputable def Tryz.m13_5 (s : List UInt8) (out : List (Dop.Tok)) (at_ : Int) : Option (Spec.D En.Dop.D4 ⟨[.own 4 72,.fd (.int .i64),.fd (.int .i64)],[]⟩) := Tryz.m13.E.cut 3000 5 ((s,out,at_,()),())
theorem Tryz.m13_eq (s : List UInt8) : m13 s =
 if (decide ((32768 : Int) < I s.length)) = true then
 some ((@List.nil Dop.Tok,((0 : Int),((4 : Int),()))),())
 else
  m13_5 (s) (@List.nil Dop.Tok) ((0 : Int)) := by kernel_rfl
theorem Tryz.m13_5_eq (s : List UInt8) (out : List (Dop.Tok)) (at_ : Int) : m13_5 s out at_ =
 if (decide ((0 : Int) ≤ at_ ∧ at_ ≤ I s.length ∧ I s.length ≤ I s.length)) = true then
 (m30 (List.drop at_.toNat (List.take (I s.length).toNat s))).bind fun y2 =>
 if (inR (at_ + y2.1.1)) = true then
 if (!y2.1.2.1) = true then
 some ((@List.nil Dop.Tok,(at_ + y2.1.1,((2 : Int),()))),())
 else
 if (decide (at_ + y2.1.1 = I s.length)) = true then
 if (andC none (room (40 : Nat) (out.length + (Dop.Tok.mk (0 : Int) (@List.nil UInt8) (0 : Int) (at_ + y2.1.1) :: @List.nil Dop.Tok).length))) = true then
 some ((out ++ Dop.Tok.mk (0 : Int) (@List.nil UInt8) (0 : Int) (at_ + y2.1.1) :: @List.nil Dop.Tok,((0 : Int),((0 : Int),()))),())
 else none
 else
 if (decide ((0 : Int) ≤ at_ + y2.1.1 ∧ at_ + y2.1.1 ≤ I s.length ∧ I s.length ≤ I s.length)) = true then
   (m31 (List.drop (at_ + y2.1.1).toNat (List.take (I s.length).toNat s))).bind fun y5 =>
 if (!decide (y5.1.2.1 = (0 : Int))) = true then
 some ((@List.nil Dop.Tok,(at_ + y2.1.1,(y5.1.2.1,()))),())
 else
 if (decide (I out.length = (8192 : Int))) = true then
 some ((@List.nil Dop.Tok,(at_ + y2.1.1,((4 : Int),()))),())
 else
 if (andC none (room (40 : Nat) (out.length + (Dop.Tok.mk y5.1.1.kind y5.1.1.text y5.1.1.n (at_ + y2.1.1) :: @List.nil Dop.Tok).length))) = true then
 if (inR (at_ + y2.1.1 + I y5.1.1.text.length)) = true then
    m13_5 (s) (out ++ Dop.Tok.mk y5.1.1.kind y5.1.1.text y5.1.1.n (at_ + y2.1.1) :: @List.nil Dop.Tok) (at_ + y2.1.1 + I y5.1.1.text.length)
 else none
 else none
 else none
 else none
 else none := Env.cut_eq' (E := Tryz.m13.E) (f0 := 3000) (c := 5) (q := ⟨[[0,0,0,0,0,1,1,1,1],[0,1,0,0,0,1,1,1,1],[1,1],[2,0,0,1,1,1,1],[1,0]],[0,5,6],0,⟨[.fd .str,.own 4 72,.fd (.int .i64)],[]⟩⟩) (by kernel_rfl) ((s,out,at_,()),()) (by kernel_rfl) (by kernel_rfl)
end Go.Proofs
