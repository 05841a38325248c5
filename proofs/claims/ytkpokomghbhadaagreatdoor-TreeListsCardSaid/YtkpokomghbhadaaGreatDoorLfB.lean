/-
 Functions of the seat, lifted: plan, model, contract, equations. Written by a program (Lift) that ran the layer's evaluation; Lean checks each line.
-/
import Derived.Test.YtkpokomghbhadaaGreatDoorLfA
set_option maxRecDepth 100000
set_option maxHeartbeats 4000000
namespace Go.Proofs
open Go Go.En
open Tryz
def Tryz.m56q.p : Pln := ⟨[],1,⟨[.al 0 0],[⟨0,77,[.fd (.sl 4),.st 0,.hd,.hd,.st 0,.st 0,.fd (.int .i64),.st 0],false⟩]⟩,⟨[.fd (.int .i64)],[⟨0,77,[.fd (.sl 4),.fd (.int .i64),.hd,.hd,.fd (.int .i64),.fd (.int .i64),.fd (.int .i64),.fd (.int .i64)],false⟩]⟩,false,[(3,⟨[(0,true),(1,true),(2,true),(3,false),(4,true),(5,true),(6,true),(7,false),(8,false),(9,true),(10,false),(11,false),(12,false)],[13],[0,1,3,7,0,16,48,112,240,496,1023,2047,0,8191],false⟩)],[]⟩
noncomputable def Tryz.m56q.E : Env En.Dop.D4 := envOf Tryz.prog 56 Tryz.tb [] Tryz.m56q.p
theorem Tryz.m56q.ok : plnOk En.Dop.D4 Tryz.prog 56 Tryz.m56q.p = true := by kernel_rfl
noncomputable def Tryz.m56q.c : Ctr En.Dop.D4 := ⟨56,Tryz.m56q.p.bn,Tryz.m56q.p.sp,Tryz.m56q.p.rs,Tryz.m56q.p.flat,.opt (Tryz.m56q.E.run 3000 Tryz.m56q.p.sp)⟩
theorem Tryz.m56q.holds : Tryz.m56q.c.Holds Tryz.prog := fun_ctr 3000 Tryz.tbOk hct_nil Tryz.m56q.ok
noncomputable def Tryz.m56q (c0 : List (Dop.Tok)) (c1 : Int) (c4 : Int) (c5 : Int) (c6 : Int) (c7 : Int) : Option (Spec.D En.Dop.D4 ⟨[.fd (.int .i64)],[⟨0,77,[.fd (.sl 4),.fd (.int .i64),.hd,.hd,.fd (.int .i64),.fd (.int .i64),.fd (.int .i64),.fd (.int .i64)],false⟩]⟩) := Tryz.m56q.E.run 3000 Tryz.m56q.p.sp (((),()),((c0,c1,(),(),c4,c5,c6,c7,()),()))
theorem Tryz.m56q_eq (c0 : List (Dop.Tok)) (c1 : Int) (c4 : Int) (c5 : Int) (c6 : Int) (c7 : Int) : m56q c0 c1 c4 c5 c6 c7 =
 if (decide (I c0.length = (0 : Int))) = true then
 some (((0 : Int),()),((c0,(c1,((),((),(c4,(c5,(c6,(c7,())))))))),()))
 else
 if (inR (I c0.length - (1 : Int))) = true then
 if (decide ((0 : Int) ≤ I c0.length - (1 : Int) ∧ I c0.length - (1 : Int) < I c0.length)) = true then
 if (inR ((@List.getD Dop.Tok c0 (I c0.length - (1 : Int)).toNat Dop.d4).at_ + I (@List.getD Dop.Tok c0 (I c0.length - (1 : Int)).toNat Dop.d4).text.length)) = true then
 some (((@List.getD Dop.Tok c0 (I c0.length - (1 : Int)).toNat Dop.d4).at_ + I (@List.getD Dop.Tok c0 (I c0.length - (1 : Int)).toNat Dop.d4).text.length,()),((c0,(c1,((),((),(c4,(c5,(c6,(c7,())))))))),()))
 else none
 else none
 else none := by kernel_rfl
def Tryz.m32q.p : Pln := ⟨[],1,⟨[.al 0 0],[⟨0,77,[.fd (.sl 4),.st 0,.hd,.hd,.st 0,.st 0,.fd (.int .i64),.st 0],false⟩]⟩,⟨[.st 4],[⟨0,77,[.fd (.sl 4),.fd (.int .i64),.hd,.hd,.fd (.int .i64),.fd (.int .i64),.fd (.int .i64),.fd (.int .i64)],false⟩]⟩,false,[(1,⟨[(0,true),(1,true),(2,true),(3,false),(4,true),(5,true),(6,true),(7,true),(8,true),(9,false),(10,true),(11,true),(12,true),(13,false),(14,false),(15,true),(16,true)],[],[0,1,3,7,15,31,63,127,255,511,63,1087,3135,7231,15423,32767,65535],false⟩),(3,⟨[(0,true),(1,true),(2,true),(3,false),(4,true),(5,true),(6,true),(7,false),(8,false),(9,false)],[10],[0,1,3,7,0,16,48,112,255,511,1023],false⟩)],[]⟩
noncomputable def Tryz.m32q.E : Env En.Dop.D4 := envOf Tryz.prog 32 Tryz.tb [Tryz.m56q.c] Tryz.m32q.p
theorem Tryz.m32q.ok : plnOk En.Dop.D4 Tryz.prog 32 Tryz.m32q.p = true := by kernel_rfl
noncomputable def Tryz.m32q.c : Ctr En.Dop.D4 := ⟨32,Tryz.m32q.p.bn,Tryz.m32q.p.sp,Tryz.m32q.p.rs,Tryz.m32q.p.flat,.opt (Tryz.m32q.E.run 3000 Tryz.m32q.p.sp)⟩
theorem Tryz.m32q.holds : Tryz.m32q.c.Holds Tryz.prog := fun_ctr 3000 Tryz.tbOk (hct_cons Tryz.m56q.holds hct_nil) Tryz.m32q.ok
noncomputable def Tryz.m32q (c0 : List (Dop.Tok)) (c1 : Int) (c4 : Int) (c5 : Int) (c6 : Int) (c7 : Int) : Option (Spec.D En.Dop.D4 ⟨[.st 4],[⟨0,77,[.fd (.sl 4),.fd (.int .i64),.hd,.hd,.fd (.int .i64),.fd (.int .i64),.fd (.int .i64),.fd (.int .i64)],false⟩]⟩) := Tryz.m32q.E.run 3000 Tryz.m32q.p.sp (((),()),((c0,c1,(),(),c4,c5,c6,c7,()),()))
theorem Tryz.m32q_eq (c0 : List (Dop.Tok)) (c1 : Int) (c4 : Int) (c5 : Int) (c6 : Int) (c7 : Int) : m32q c0 c1 c4 c5 c6 c7 =
 if (!decide (c6 = (0 : Int))) = true then
  (m56q c0 c1 c4 c5 c6 c7).bind fun y3 =>
 some ((Dop.Tok.mk (0 : Int) (@List.nil UInt8) (0 : Int) y3.1.1,()),((y3.2.1.1,(y3.2.1.2.1,((),((),(y3.2.1.2.2.2.2.1,(y3.2.1.2.2.2.2.2.1,(y3.2.1.2.2.2.2.2.2.1,(y3.2.1.2.2.2.2.2.2.2.1,())))))))),()))
 else
 if (decide (I c0.length ≤ c1)) = true then
  (m56q c0 c1 c4 c5 c6 c7).bind fun y4 =>
 some ((Dop.Tok.mk (0 : Int) (@List.nil UInt8) (0 : Int) y4.1.1,()),((y4.2.1.1,(y4.2.1.2.1,((),((),(y4.2.1.2.2.2.2.1,(y4.2.1.2.2.2.2.2.1,(y4.2.1.2.2.2.2.2.2.1,(y4.2.1.2.2.2.2.2.2.2.1,())))))))),()))
 else
 if (decide ((0 : Int) ≤ c1 ∧ c1 < I c0.length)) = true then
 some ((@List.getD Dop.Tok c0 c1.toNat Dop.d4,()),((c0,(c1,((),((),(c4,(c5,(c6,(c7,())))))))),()))
 else none := by kernel_rfl
def Tryz.m58q.p : Pln := ⟨[],1,⟨[.al 0 0,.fd .str],[⟨0,77,[.fd (.sl 4),.st 0,.hd,.hd,.st 0,.st 0,.fd (.int .i64),.st 0],false⟩]⟩,⟨[.fd .bool],[⟨0,77,[.fd (.sl 4),.fd (.int .i64),.hd,.hd,.fd (.int .i64),.fd (.int .i64),.fd (.int .i64),.fd (.int .i64)],false⟩]⟩,false,[],[]⟩
noncomputable def Tryz.m58q.E : Env En.Dop.D4 := envOf Tryz.prog 58 Tryz.tb [Tryz.m32q.c] Tryz.m58q.p
theorem Tryz.m58q.ok : plnOk En.Dop.D4 Tryz.prog 58 Tryz.m58q.p = true := by kernel_rfl
noncomputable def Tryz.m58q.c : Ctr En.Dop.D4 := ⟨58,Tryz.m58q.p.bn,Tryz.m58q.p.sp,Tryz.m58q.p.rs,Tryz.m58q.p.flat,.opt (Tryz.m58q.E.run 3000 Tryz.m58q.p.sp)⟩
theorem Tryz.m58q.holds : Tryz.m58q.c.Holds Tryz.prog := fun_ctr 3000 Tryz.tbOk (hct_cons Tryz.m32q.holds hct_nil) Tryz.m58q.ok
noncomputable def Tryz.m58q (s : List UInt8) (c0 : List (Dop.Tok)) (c1 : Int) (c4 : Int) (c5 : Int) (c6 : Int) (c7 : Int) : Option (Spec.D En.Dop.D4 ⟨[.fd .bool],[⟨0,77,[.fd (.sl 4),.fd (.int .i64),.hd,.hd,.fd (.int .i64),.fd (.int .i64),.fd (.int .i64),.fd (.int .i64)],false⟩]⟩) := Tryz.m58q.E.run 3000 Tryz.m58q.p.sp (((),s,()),((c0,c1,(),(),c4,c5,c6,c7,()),()))
theorem Tryz.m58q_eq (s : List UInt8) (c0 : List (Dop.Tok)) (c1 : Int) (c4 : Int) (c5 : Int) (c6 : Int) (c7 : Int) : m58q s c0 c1 c4 c5 c6 c7 =
 (m32q c0 c1 c4 c5 c6 c7).bind fun y2 =>
 if (decide (y2.1.1.kind = (4 : Int))) = true then
 some ((decide (y2.1.1.text = s),()),((y2.2.1.1,(y2.2.1.2.1,((),((),(y2.2.1.2.2.2.2.1,(y2.2.1.2.2.2.2.2.1,(y2.2.1.2.2.2.2.2.2.1,(y2.2.1.2.2.2.2.2.2.2.1,())))))))),()))
 else
 if (decide (y2.1.1.kind = (2 : Int))) = true then
 some ((decide (y2.1.1.text = s),()),((y2.2.1.1,(y2.2.1.2.1,((),((),(y2.2.1.2.2.2.2.1,(y2.2.1.2.2.2.2.2.1,(y2.2.1.2.2.2.2.2.2.1,(y2.2.1.2.2.2.2.2.2.2.1,())))))))),()))
 else
 some ((false,()),((y2.2.1.1,(y2.2.1.2.1,((),((),(y2.2.1.2.2.2.2.1,(y2.2.1.2.2.2.2.2.1,(y2.2.1.2.2.2.2.2.2.1,(y2.2.1.2.2.2.2.2.2.2.1,())))))))),())) := by kernel_rfl
def Tryz.m117q.p : Pln := ⟨[],1,⟨[.al 0 0],[⟨0,77,[.fd (.sl 4),.st 0,.hd,.hd,.st 0,.st 0,.fd (.int .i64),.st 0],false⟩]⟩,⟨[.fd .bool],[⟨0,77,[.fd (.sl 4),.fd (.int .i64),.hd,.hd,.fd (.int .i64),.fd (.int .i64),.fd (.int .i64),.fd (.int .i64)],false⟩]⟩,false,[],[]⟩
noncomputable def Tryz.m117q.E : Env En.Dop.D4 := envOf Tryz.prog 117 Tryz.tb [Tryz.m58q.c] Tryz.m117q.p
theorem Tryz.m117q.ok : plnOk En.Dop.D4 Tryz.prog 117 Tryz.m117q.p = true := by kernel_rfl
noncomputable def Tryz.m117q.c : Ctr En.Dop.D4 := ⟨117,Tryz.m117q.p.bn,Tryz.m117q.p.sp,Tryz.m117q.p.rs,Tryz.m117q.p.flat,.opt (Tryz.m117q.E.run 3000 Tryz.m117q.p.sp)⟩
theorem Tryz.m117q.holds : Tryz.m117q.c.Holds Tryz.prog := fun_ctr 3000 Tryz.tbOk (hct_cons Tryz.m58q.holds hct_nil) Tryz.m117q.ok
noncomputable def Tryz.m117q (c0 : List (Dop.Tok)) (c1 : Int) (c4 : Int) (c5 : Int) (c6 : Int) (c7 : Int) : Option (Spec.D En.Dop.D4 ⟨[.fd .bool],[⟨0,77,[.fd (.sl 4),.fd (.int .i64),.hd,.hd,.fd (.int .i64),.fd (.int .i64),.fd (.int .i64),.fd (.int .i64)],false⟩]⟩) := Tryz.m117q.E.run 3000 Tryz.m117q.p.sp (((),()),((c0,c1,(),(),c4,c5,c6,c7,()),()))
theorem Tryz.m117q_eq (c0 : List (Dop.Tok)) (c1 : Int) (c4 : Int) (c5 : Int) (c6 : Int) (c7 : Int) : m117q c0 c1 c4 c5 c6 c7 =
 (m58q ([105,110,116] : List UInt8) c0 c1 c4 c5 c6 c7).bind fun y2 =>
 if y2.1.1 = true then
 some ((true,()),((y2.2.1.1,(y2.2.1.2.1,((),((),(y2.2.1.2.2.2.2.1,(y2.2.1.2.2.2.2.2.1,(y2.2.1.2.2.2.2.2.2.1,(y2.2.1.2.2.2.2.2.2.2.1,())))))))),()))
 else
  (m58q ([117,110,115,105,103,110,101,100] : List UInt8) y2.2.1.1 y2.2.1.2.1 y2.2.1.2.2.2.2.1 y2.2.1.2.2.2.2.2.1 y2.2.1.2.2.2.2.2.2.1 y2.2.1.2.2.2.2.2.2.2.1).bind fun y4 =>
 if y4.1.1 = true then
 some ((true,()),((y4.2.1.1,(y4.2.1.2.1,((),((),(y4.2.1.2.2.2.2.1,(y4.2.1.2.2.2.2.2.1,(y4.2.1.2.2.2.2.2.2.1,(y4.2.1.2.2.2.2.2.2.2.1,())))))))),()))
 else
   (m58q ([99,104,97,114] : List UInt8) y4.2.1.1 y4.2.1.2.1 y4.2.1.2.2.2.2.1 y4.2.1.2.2.2.2.2.1 y4.2.1.2.2.2.2.2.2.1 y4.2.1.2.2.2.2.2.2.2.1).bind fun y6 =>
 if y6.1.1 = true then
 some ((true,()),((y6.2.1.1,(y6.2.1.2.1,((),((),(y6.2.1.2.2.2.2.1,(y6.2.1.2.2.2.2.2.1,(y6.2.1.2.2.2.2.2.2.1,(y6.2.1.2.2.2.2.2.2.2.1,())))))))),()))
 else
    (m58q ([118,111,105,100] : List UInt8) y6.2.1.1 y6.2.1.2.1 y6.2.1.2.2.2.2.1 y6.2.1.2.2.2.2.2.1 y6.2.1.2.2.2.2.2.2.1 y6.2.1.2.2.2.2.2.2.2.1).bind fun y8 =>
 if y8.1.1 = true then
 some ((true,()),((y8.2.1.1,(y8.2.1.2.1,((),((),(y8.2.1.2.2.2.2.1,(y8.2.1.2.2.2.2.2.1,(y8.2.1.2.2.2.2.2.2.1,(y8.2.1.2.2.2.2.2.2.2.1,())))))))),()))
 else
     (m58q ([115,116,114,117,99,116] : List UInt8) y8.2.1.1 y8.2.1.2.1 y8.2.1.2.2.2.2.1 y8.2.1.2.2.2.2.2.1 y8.2.1.2.2.2.2.2.2.1 y8.2.1.2.2.2.2.2.2.2.1).bind fun y10 =>
 some ((y10.1.1,()),((y10.2.1.1,(y10.2.1.2.1,((),((),(y10.2.1.2.2.2.2.1,(y10.2.1.2.2.2.2.2.1,(y10.2.1.2.2.2.2.2.2.1,(y10.2.1.2.2.2.2.2.2.2.1,())))))))),())) := by kernel_rfl
end Go.Proofs
