/-
 Functions of the seat, lifted: plan, model, contract, equations. Written by a program (Lift) that ran the layer's evaluation; Lean checks each line.
-/
import Derived.Test.YtkpokomghbhadaaGreatDoorLfC
set_option maxRecDepth 100000
set_option maxHeartbeats 4000000
namespace Go.Proofs
open Go Go.En
open Tryz
def Tryz.m119.p : Pln := ⟨[],1,⟨[.al 0 0],[bxA]⟩,⟨[.fd (.int .i64)],[bxB]⟩,false,[],[]⟩
noncomputable def Tryz.m119.E : Env En.Dop.D4 := envOf Tryz.prog 119 Tryz.tb [Tryz.m59.c,Tryz.m118.cf] Tryz.m119.p
theorem Tryz.m119.ok : plnOk En.Dop.D4 Tryz.prog 119 Tryz.m119.p = true := by kernel_rfl
noncomputable def Tryz.m119.c : Ctr En.Dop.D4 := ⟨119,Tryz.m119.p.bn,Tryz.m119.p.sp,Tryz.m119.p.rs,Tryz.m119.p.flat,.opt (Tryz.m119.E.run 3000 Tryz.m119.p.sp)⟩
theorem Tryz.m119.holds : Tryz.m119.c.Holds Tryz.prog := fun_ctr 3000 Tryz.tbOk (hct_cons Tryz.m59.holds (hct_cons Tryz.m118.holdsf hct_nil)) Tryz.m119.ok
noncomputable def Tryz.m119 (c0 : List Dop.Tok) (c1 : Int) (c2 : List Dop.Nde) (c3 : List Dop.Typ) (c4 c5 c6 c7 : Int) : Option (Spec.D En.Dop.D4 ⟨[.fd (.int .i64)],[bxB]⟩) := Tryz.m119.E.run 3000 Tryz.m119.p.sp (((),()),((c0,c1,c2,c3,c4,c5,c6,c7,()),()))
theorem Tryz.m119_eq (c0 : List Dop.Tok) (c1 : Int) (c2 : List Dop.Nde) (c3 : List Dop.Typ) (c4 c5 c6 c7 : Int) : m119 c0 c1 c2 c3 c4 c5 c6 c7 =
 (m59 ([40] : List UInt8) c0 c1 c2 c3 c4 c5 c6 c7).bind fun y2 =>
  (m118 (FU) y2.2.1.1 y2.2.1.2.1 y2.2.1.2.2.1 y2.2.1.2.2.2.1 y2.2.1.2.2.2.2.1 y2.2.1.2.2.2.2.2.1 y2.2.1.2.2.2.2.2.2.1 y2.2.1.2.2.2.2.2.2.2.1).bind fun y3 =>
  (m59 ([41] : List UInt8) y3.2.1.1 y3.2.1.2.1 y3.2.1.2.2.1 y3.2.1.2.2.2.1 y3.2.1.2.2.2.2.1 y3.2.1.2.2.2.2.2.1 y3.2.1.2.2.2.2.2.2.1 y3.2.1.2.2.2.2.2.2.2.1).bind fun y4 =>
 some ((y3.1.1,()),((y4.2.1.1,(y4.2.1.2.1,(y4.2.1.2.2.1,(y4.2.1.2.2.2.1,(y4.2.1.2.2.2.2.1,(y4.2.1.2.2.2.2.2.1,(y4.2.1.2.2.2.2.2.2.1,(y4.2.1.2.2.2.2.2.2.2.1,())))))))),())) := by kernel_rfl
def Tryz.m120.p : Pln := ⟨[],1,⟨[.al 0 0,.fd .str],[bxA]⟩,⟨[.fd (.int .i64)],[bxB]⟩,false,[],[]⟩
noncomputable def Tryz.m120.E : Env En.Dop.D4 := envOf Tryz.prog 120 Tryz.tb [Tryz.m61.c,Tryz.m118.cf,Tryz.m59.c] Tryz.m120.p
theorem Tryz.m120.ok : plnOk En.Dop.D4 Tryz.prog 120 Tryz.m120.p = true := by kernel_rfl
noncomputable def Tryz.m120.c : Ctr En.Dop.D4 := ⟨120,Tryz.m120.p.bn,Tryz.m120.p.sp,Tryz.m120.p.rs,Tryz.m120.p.flat,.opt (Tryz.m120.E.run 3000 Tryz.m120.p.sp)⟩
theorem Tryz.m120.holds : Tryz.m120.c.Holds Tryz.prog := fun_ctr 3000 Tryz.tbOk (hct_cons Tryz.m61.holds (hct_cons Tryz.m118.holdsf (hct_cons Tryz.m59.holds hct_nil))) Tryz.m120.ok
noncomputable def Tryz.m120 (s : List UInt8) (c0 : List Dop.Tok) (c1 : Int) (c2 : List Dop.Nde) (c3 : List Dop.Typ) (c4 c5 c6 c7 : Int) : Option (Spec.D En.Dop.D4 ⟨[.fd (.int .i64)],[bxB]⟩) := Tryz.m120.E.run 3000 Tryz.m120.p.sp (((),s,()),((c0,c1,c2,c3,c4,c5,c6,c7,()),()))
theorem Tryz.m120_eq (s : List UInt8) (c0 : List Dop.Tok) (c1 : Int) (c2 : List Dop.Nde) (c3 : List Dop.Typ) (c4 c5 c6 c7 : Int) : m120 s c0 c1 c2 c3 c4 c5 c6 c7 =
 (m61 (s) c0 c1 c2 c3 c4 c5 c6 c7).bind fun y2 =>
 if y2.1.1 = true then
 some (((-1 : Int),()),((y2.2.1.1,(y2.2.1.2.1,(y2.2.1.2.2.1,(y2.2.1.2.2.2.1,(y2.2.1.2.2.2.2.1,(y2.2.1.2.2.2.2.2.1,(y2.2.1.2.2.2.2.2.2.1,(y2.2.1.2.2.2.2.2.2.2.1,())))))))),()))
 else
  (m118 (FU) y2.2.1.1 y2.2.1.2.1 y2.2.1.2.2.1 y2.2.1.2.2.2.1 y2.2.1.2.2.2.2.1 y2.2.1.2.2.2.2.2.1 y2.2.1.2.2.2.2.2.2.1 y2.2.1.2.2.2.2.2.2.2.1).bind fun y4 =>
   (m59 (s) y4.2.1.1 y4.2.1.2.1 y4.2.1.2.2.1 y4.2.1.2.2.2.1 y4.2.1.2.2.2.2.1 y4.2.1.2.2.2.2.2.1 y4.2.1.2.2.2.2.2.2.1 y4.2.1.2.2.2.2.2.2.2.1).bind fun y5 =>
 some ((y4.1.1,()),((y5.2.1.1,(y5.2.1.2.1,(y5.2.1.2.2.1,(y5.2.1.2.2.2.1,(y5.2.1.2.2.2.2.1,(y5.2.1.2.2.2.2.2.1,(y5.2.1.2.2.2.2.2.2.1,(y5.2.1.2.2.2.2.2.2.2.1,())))))))),())) := by kernel_rfl
def Tryz.m121.p : Pln := ⟨[],1,⟨[.al 0 0],[bxA]⟩,⟨[.fd .bool],[bxB]⟩,false,[(1,⟨[(0,true),(1,false),(2,true),(3,true),(4,true),(5,true),(6,true),(7,true),(8,false),(9,true),(10,true),(11,true),(12,true),(13,false),(14,false),(15,true),(16,true),(17,true),(18,true),(19,true),(20,true),(21,false),(22,true),(23,true),(24,true),(25,false),(26,true),(27,false),(28,false),(29,false),(30,true),(31,true),(32,true)],[1000000],[0,1,3,7,15,31,63,127,255,511,31,1055,3103,7199,15391,32767,65535,131071,262143,524287,1048575,2097151,262143,4456447,12845055,29622271,63176703,134217727,268435455,536870911,1073741823,2147483647,4294967295],false⟩)],[]⟩
noncomputable def Tryz.m121.E : Env En.Dop.D4 := envOf Tryz.prog 121 Tryz.tb [Tryz.m32.c] Tryz.m121.p
theorem Tryz.m121.ok : plnOk En.Dop.D4 Tryz.prog 121 Tryz.m121.p = true := by kernel_rfl
noncomputable def Tryz.m121.c : Ctr En.Dop.D4 := ⟨121,Tryz.m121.p.bn,Tryz.m121.p.sp,Tryz.m121.p.rs,Tryz.m121.p.flat,.opt (Tryz.m121.E.run 3000 Tryz.m121.p.sp)⟩
theorem Tryz.m121.holds : Tryz.m121.c.Holds Tryz.prog := fun_ctr 3000 Tryz.tbOk (hct_cons Tryz.m32.holds hct_nil) Tryz.m121.ok
noncomputable def Tryz.m121 (c0 : List Dop.Tok) (c1 : Int) (c2 : List Dop.Nde) (c3 : List Dop.Typ) (c4 c5 c6 c7 : Int) : Option (Spec.D En.Dop.D4 ⟨[.fd .bool],[bxB]⟩) := Tryz.m121.E.run 3000 Tryz.m121.p.sp (((),()),((c0,c1,c2,c3,c4,c5,c6,c7,()),()))
theorem Tryz.m121_eq (c0 : List Dop.Tok) (c1 : Int) (c2 : List Dop.Nde) (c3 : List Dop.Typ) (c4 c5 c6 c7 : Int) : m121 c0 c1 c2 c3 c4 c5 c6 c7 =
 (m32 c0 c1 c2 c3 c4 c5 c6 c7).bind fun y2 =>
 if (decide (y2.1.1.kind = (1 : Int))) = true then
 if (inR (y2.2.1.2.1 + (1 : Int))) = true then
 if (decide (y2.2.1.2.1 + (1 : Int) < I y2.2.1.1.length)) = true then
 if (inR (y2.2.1.2.1 + (1 : Int))) = true then
 if (decide ((0 : Int) ≤ y2.2.1.2.1 + (1 : Int) ∧ y2.2.1.2.1 + (1 : Int) < I y2.2.1.1.length)) = true then
 some ((decide ((@List.getD Dop.Tok y2.2.1.1 (y2.2.1.2.1 + (1 : Int)).toNat Dop.d4).text = (58 : UInt8) :: @List.nil UInt8),()),((y2.2.1.1,(y2.2.1.2.1,(y2.2.1.2.2.1,(y2.2.1.2.2.2.1,(y2.2.1.2.2.2.2.1,(y2.2.1.2.2.2.2.2.1,(y2.2.1.2.2.2.2.2.2.1,(y2.2.1.2.2.2.2.2.2.2.1,())))))))),()))
 else none
 else none
 else
 some ((false,()),((y2.2.1.1,(y2.2.1.2.1,(y2.2.1.2.2.1,(y2.2.1.2.2.2.1,(y2.2.1.2.2.2.2.1,(y2.2.1.2.2.2.2.2.1,(y2.2.1.2.2.2.2.2.2.1,(y2.2.1.2.2.2.2.2.2.2.1,())))))))),()))
 else none
 else
 some ((false,()),((y2.2.1.1,(y2.2.1.2.1,(y2.2.1.2.2.1,(y2.2.1.2.2.2.1,(y2.2.1.2.2.2.2.1,(y2.2.1.2.2.2.2.2.1,(y2.2.1.2.2.2.2.2.2.1,(y2.2.1.2.2.2.2.2.2.2.1,())))))))),())) := by kernel_rfl
def Tryz.m65.p : Pln := ⟨[(4,⟨[[0,0,0,0,0,0,1,1,1,1],[0,1,0,0,0,0,1,1,1,1],[0,1,0,0,0,1,1,1,1],[2,0,0,0,1,1,1,1],[1,0],[0,1,1,1,1,1]],[0,3,4],2,⟨[.al 0 0,.al 1 0,.own 0 3],[bxB,⟨1,33,[.st 5],false⟩]⟩⟩)],1,⟨[.al 0 0],[bxA]⟩,⟨[.fd (.int .i64)],[bxA]⟩,false,[],[]⟩
theorem Tryz.m65.ok : plnOk En.Dop.D4 Tryz.prog 65 Tryz.m65.p = true := by kernel_rfl
def Tryz.m84.p : Pln := ⟨[],1,⟨[.al 0 0],[bxA]⟩,⟨[.fd (.int .i64)],[bxA]⟩,false,[],[]⟩
theorem Tryz.m84.ok : plnOk En.Dop.D4 Tryz.prog 84 Tryz.m84.p = true := by kernel_rfl
def Tryz.m102_1000103.p : Pln := ⟨[],1,⟨[.al 0 0,.fn 1000103 [(0,0)]],[bxA]⟩,⟨[.fd (.int .i64)],[bxA]⟩,false,[],[]⟩
def Tryz.m103.p : Pln := ⟨[(64,⟨[[0,0,1,1,1],[0,1,1,1,1]],[0,3],2,⟨[.al 0 0,.al 1 0],[bxB,⟨1,33,[.st 5],false⟩]⟩⟩),(13,⟨[[0,1,1,1,1,0,1,1,1,1,1,0,0,1,1],[1,0],[0,1,1,1]],[0,3],2,⟨[.al 0 0,.al 1 0],[bxB,⟨1,33,[.st 5],false⟩]⟩⟩),(53,⟨[[0,0,1,1,1,0,1,1,1,1,1,1,1,1,1,1,1,1,1,1,1,1,1,1,1,1,1,1,1,1,1,0,0,1,1],[0,1,1,1,1,0,1,1,1,1,1,1,1,1,1,1,1,1,1,1,1,1,1,1,1,1,1,1,1,1,1,0,0,1,1],[1,0],[0,1,1,1]],[0,3,4],2,⟨[.al 0 0,.al 1 0,.fd (.int .i64)],[bxB,⟨1,33,[.st 5],false⟩]⟩⟩)],1,⟨[.al 0 0],[bxA]⟩,⟨[.fd (.int .i64)],[bxA]⟩,false,[],[]⟩
theorem Tryz.m103.ok : plnOk En.Dop.D4 Tryz.prog 103 Tryz.m103.p = true := by kernel_rfl
@[reducible] def Tryz.g65.T : Type := (Spec.D En.Dop.D4 ⟨[.al 0 0],[bxA]⟩ → Option (Spec.D En.Dop.D4 ⟨[.fd (.int .i64)],[bxA]⟩)) × (Spec.D En.Dop.D4 ⟨[.al 0 0],[bxA]⟩ → Option (Spec.D En.Dop.D4 ⟨[.fd (.int .i64)],[bxA]⟩)) × (Spec.D En.Dop.D4 ⟨[.al 0 0,.fn 1000103 [(0,0)]],[bxA]⟩ → Option (Spec.D En.Dop.D4 ⟨[.fd (.int .i64)],[bxA]⟩)) × (Spec.D En.Dop.D4 ⟨[.al 0 0],[bxA]⟩ → Option (Spec.D En.Dop.D4 ⟨[.fd (.int .i64)],[bxA]⟩)) × Unit
noncomputable def Tryz.g65.step (r : Tryz.g65.T) : Tryz.g65.T := ((envOf Tryz.prog 65 Tryz.tb ([⟨65,Tryz.m65.p.bn,Tryz.m65.p.sp,Tryz.m65.p.rs,Tryz.m65.p.flat,.opt (r.1)⟩,⟨84,Tryz.m84.p.bn,Tryz.m84.p.sp,Tryz.m84.p.rs,Tryz.m84.p.flat,.opt (r.2.1)⟩,⟨102,Tryz.m102_1000103.p.bn,Tryz.m102_1000103.p.sp,Tryz.m102_1000103.p.rs,Tryz.m102_1000103.p.flat,.opt (r.2.2.1)⟩,⟨103,Tryz.m103.p.bn,Tryz.m103.p.sp,Tryz.m103.p.rs,Tryz.m103.p.flat,.opt (r.2.2.2.1)⟩] ++ [Tryz.m32.c,Tryz.m57.c,Tryz.m59.c,Tryz.m61.c,Tryz.m34.c,Tryz.m64.c]) Tryz.m65.p).run 3000 Tryz.m65.p.sp,(envOf Tryz.prog 84 Tryz.tb ([⟨65,Tryz.m65.p.bn,Tryz.m65.p.sp,Tryz.m65.p.rs,Tryz.m65.p.flat,.opt (r.1)⟩,⟨84,Tryz.m84.p.bn,Tryz.m84.p.sp,Tryz.m84.p.rs,Tryz.m84.p.flat,.opt (r.2.1)⟩,⟨102,Tryz.m102_1000103.p.bn,Tryz.m102_1000103.p.sp,Tryz.m102_1000103.p.rs,Tryz.m102_1000103.p.flat,.opt (r.2.2.1)⟩,⟨103,Tryz.m103.p.bn,Tryz.m103.p.sp,Tryz.m103.p.rs,Tryz.m103.p.flat,.opt (r.2.2.2.1)⟩] ++ []) Tryz.m84.p).run 3000 Tryz.m84.p.sp,fun x => Tryz.within r.2.2.2.1 x.2.1,(envOf Tryz.prog 103 Tryz.tb ([⟨65,Tryz.m65.p.bn,Tryz.m65.p.sp,Tryz.m65.p.rs,Tryz.m65.p.flat,.opt (r.1)⟩,⟨84,Tryz.m84.p.bn,Tryz.m84.p.sp,Tryz.m84.p.rs,Tryz.m84.p.flat,.opt (r.2.1)⟩,⟨102,Tryz.m102_1000103.p.bn,Tryz.m102_1000103.p.sp,Tryz.m102_1000103.p.rs,Tryz.m102_1000103.p.flat,.opt (r.2.2.1)⟩,⟨103,Tryz.m103.p.bn,Tryz.m103.p.sp,Tryz.m103.p.rs,Tryz.m103.p.flat,.opt (r.2.2.2.1)⟩] ++ [Tryz.m32.c,Tryz.m57.c,Tryz.m58.c,Tryz.m61.c,Tryz.m117.c,Tryz.m82.c,Tryz.m60.c,Tryz.m63.c,Tryz.m118.cf,Tryz.m59.c,Tryz.m119.c,Tryz.m120.c,Tryz.m121.c,Tryz.m64.c]) Tryz.m103.p).run 3000 Tryz.m103.p.sp,())
noncomputable def Tryz.g65.R (n : Nat) : Tryz.g65.T := Nat.rec (motive := fun _ => Tryz.g65.T) (fun _ => none,fun _ => none,fun _ => none,fun _ => none,()) (fun _ r => Tryz.g65.step r) n
noncomputable def Tryz.m65.R (n : Nat) : Spec.D En.Dop.D4 ⟨[.al 0 0],[bxA]⟩ → Option (Spec.D En.Dop.D4 ⟨[.fd (.int .i64)],[bxA]⟩) := (Tryz.g65.R n).1
noncomputable def Tryz.m65.c (n : Nat) : Ctr En.Dop.D4 := ⟨65,Tryz.m65.p.bn,Tryz.m65.p.sp,Tryz.m65.p.rs,Tryz.m65.p.flat,.opt (Tryz.m65.R n)⟩
noncomputable def Tryz.m65.cf : Ctr En.Dop.D4 := Tryz.m65.c FU
noncomputable def Tryz.m84.R (n : Nat) : Spec.D En.Dop.D4 ⟨[.al 0 0],[bxA]⟩ → Option (Spec.D En.Dop.D4 ⟨[.fd (.int .i64)],[bxA]⟩) := (Tryz.g65.R n).2.1
noncomputable def Tryz.m84.c (n : Nat) : Ctr En.Dop.D4 := ⟨84,Tryz.m84.p.bn,Tryz.m84.p.sp,Tryz.m84.p.rs,Tryz.m84.p.flat,.opt (Tryz.m84.R n)⟩
noncomputable def Tryz.m102_1000103.R (n : Nat) : Spec.D En.Dop.D4 ⟨[.al 0 0,.fn 1000103 [(0,0)]],[bxA]⟩ → Option (Spec.D En.Dop.D4 ⟨[.fd (.int .i64)],[bxA]⟩) := (Tryz.g65.R n).2.2.1
noncomputable def Tryz.m102_1000103.c (n : Nat) : Ctr En.Dop.D4 := ⟨102,Tryz.m102_1000103.p.bn,Tryz.m102_1000103.p.sp,Tryz.m102_1000103.p.rs,Tryz.m102_1000103.p.flat,.opt (Tryz.m102_1000103.R n)⟩
noncomputable def Tryz.m103.R (n : Nat) : Spec.D En.Dop.D4 ⟨[.al 0 0],[bxA]⟩ → Option (Spec.D En.Dop.D4 ⟨[.fd (.int .i64)],[bxA]⟩) := (Tryz.g65.R n).2.2.2.1
noncomputable def Tryz.m103.c (n : Nat) : Ctr En.Dop.D4 := ⟨103,Tryz.m103.p.bn,Tryz.m103.p.sp,Tryz.m103.p.rs,Tryz.m103.p.flat,.opt (Tryz.m103.R n)⟩
noncomputable def Tryz.m65.E (n : Nat) : Env En.Dop.D4 := envOf Tryz.prog 65 Tryz.tb ([Tryz.m65.c n,Tryz.m84.c n,Tryz.m102_1000103.c n,Tryz.m103.c n] ++ [Tryz.m32.c,Tryz.m57.c,Tryz.m59.c,Tryz.m61.c,Tryz.m34.c,Tryz.m64.c]) Tryz.m65.p
noncomputable def Tryz.m103.E (n : Nat) : Env En.Dop.D4 := envOf Tryz.prog 103 Tryz.tb ([Tryz.m65.c n,Tryz.m84.c n,Tryz.m102_1000103.c n,Tryz.m103.c n] ++ [Tryz.m32.c,Tryz.m57.c,Tryz.m58.c,Tryz.m61.c,Tryz.m117.c,Tryz.m82.c,Tryz.m60.c,Tryz.m63.c,Tryz.m118.cf,Tryz.m59.c,Tryz.m119.c,Tryz.m120.c,Tryz.m121.c,Tryz.m64.c]) Tryz.m103.p
theorem Tryz.g65.all : ∀ n,(Tryz.m65.c n).Holds Tryz.prog ∧ (Tryz.m84.c n).Holds Tryz.prog ∧ (Tryz.m102_1000103.c n).Holds Tryz.prog ∧ (Tryz.m103.c n).Holds Tryz.prog ∧ True
 | 0 => ⟨ctr_none Tryz.tbOk Tryz.m65.ok,ctr_none Tryz.tbOk Tryz.m84.ok,ctr_none Tryz.tbOk (by kernel_rfl),ctr_none Tryz.tbOk Tryz.m103.ok,trivial⟩
 | n + 1 => by
  obtain ⟨h0,h1,h2,h3,_⟩ := Tryz.g65.all n
  exact ⟨fun_ctr 3000 Tryz.tbOk (hct_app (hct_cons h0 (hct_cons h1 (hct_cons h2 (hct_cons h3 hct_nil)))) (hct_cons Tryz.m32.holds (hct_cons Tryz.m57.holds (hct_cons Tryz.m59.holds (hct_cons Tryz.m61.holds (hct_cons Tryz.m34.holds (hct_cons Tryz.m64.holds hct_nil))))))) Tryz.m65.ok,fun_ctr 3000 Tryz.tbOk (hct_app (hct_cons h0 (hct_cons h1 (hct_cons h2 (hct_cons h3 hct_nil)))) hct_nil) Tryz.m84.ok,(w103.holds (m := Tryz.m103.R n) h3),fun_ctr 3000 Tryz.tbOk (hct_app (hct_cons h0 (hct_cons h1 (hct_cons h2 (hct_cons h3 hct_nil)))) (hct_cons Tryz.m32.holds (hct_cons Tryz.m57.holds (hct_cons Tryz.m58.holds (hct_cons Tryz.m61.holds (hct_cons Tryz.m117.holds (hct_cons Tryz.m82.holds (hct_cons Tryz.m60.holds (hct_cons Tryz.m63.holds (hct_cons Tryz.m118.holdsf (hct_cons Tryz.m59.holds (hct_cons Tryz.m119.holds (hct_cons Tryz.m120.holds (hct_cons Tryz.m121.holds (hct_cons Tryz.m64.holds hct_nil))))))))))))))) Tryz.m103.ok,trivial⟩
theorem Tryz.m65.holdsf : Tryz.m65.cf.Holds Tryz.prog := (Tryz.g65.all FU).1
noncomputable def Tryz.m65 (n : Nat) (c0 : List Dop.Tok) (c1 : Int) (c2 : List Dop.Nde) (c3 : List Dop.Typ) (c4 c5 c6 c7 : Int) : Option (Spec.D En.Dop.D4 ⟨[.fd (.int .i64)],[bxA]⟩) := Tryz.m65.R n (((),()),((c0,c1,c2,c3,c4,c5,c6,c7,()),()))
noncomputable def Tryz.m65_4 (n : Nat) (l : List (Int)) (c0 : List Dop.Tok) (c1 : Int) (c2 : List Dop.Nde) (c3 : List Dop.Typ) (c4 c5 c6 c7 : Int) (b1 : Dop.Nde) : Option (Spec.D En.Dop.D4 ⟨[.fd (.int .i64)],[bxA]⟩) := (Tryz.m65.E n).cut 3000 4 (((),(),l,()),((c0,c1,c2,c3,c4,c5,c6,c7,()),(b1,()),()))
noncomputable def Tryz.m84 (n : Nat) (c0 : List Dop.Tok) (c1 : Int) (c2 : List Dop.Nde) (c3 : List Dop.Typ) (c4 c5 c6 c7 : Int) : Option (Spec.D En.Dop.D4 ⟨[.fd (.int .i64)],[bxA]⟩) := Tryz.m84.R n (((),()),((c0,c1,c2,c3,c4,c5,c6,c7,()),()))
noncomputable def Tryz.m102_1000103 (n : Nat) (c0 : List Dop.Tok) (c1 : Int) (c2 : List Dop.Nde) (c3 : List Dop.Typ) (c4 c5 c6 c7 : Int) : Option (Spec.D En.Dop.D4 ⟨[.fd (.int .i64)],[bxA]⟩) := Tryz.m102_1000103.R n (((),(),()),((c0,c1,c2,c3,c4,c5,c6,c7,()),()))
noncomputable def Tryz.m103 (n : Nat) (c0 : List Dop.Tok) (c1 : Int) (c2 : List Dop.Nde) (c3 : List Dop.Typ) (c4 c5 c6 c7 : Int) : Option (Spec.D En.Dop.D4 ⟨[.fd (.int .i64)],[bxA]⟩) := Tryz.m103.R n (((),()),((c0,c1,c2,c3,c4,c5,c6,c7,()),()))
noncomputable def Tryz.m103_64 (n : Nat) (c0 : List Dop.Tok) (c1 : Int) (c2 : List Dop.Nde) (c3 : List Dop.Typ) (c4 c5 c6 c7 : Int) (b1 : Dop.Nde) : Option (Spec.D En.Dop.D4 ⟨[.fd (.int .i64)],[bxA]⟩) := (Tryz.m103.E n).cut 3000 64 (((),(),()),((c0,c1,c2,c3,c4,c5,c6,c7,()),(b1,()),()))
noncomputable def Tryz.m103_13 (n : Nat) (c0 : List Dop.Tok) (c1 : Int) (c2 : List Dop.Nde) (c3 : List Dop.Typ) (c4 c5 c6 c7 : Int) (b1 : Dop.Nde) : Option (Spec.D En.Dop.D4 ⟨[.fd (.int .i64)],[bxA]⟩) := (Tryz.m103.E n).cut 3000 13 (((),(),()),((c0,c1,c2,c3,c4,c5,c6,c7,()),(b1,()),()))
noncomputable def Tryz.m103_53 (n : Nat) (t4 : Int) (c0 : List Dop.Tok) (c1 : Int) (c2 : List Dop.Nde) (c3 : List Dop.Typ) (c4 c5 c6 c7 : Int) (b1 : Dop.Nde) : Option (Spec.D En.Dop.D4 ⟨[.fd (.int .i64)],[bxA]⟩) := (Tryz.m103.E n).cut 3000 53 (((),(),t4,()),((c0,c1,c2,c3,c4,c5,c6,c7,()),(b1,()),()))
theorem Tryz.m65_eq (n : Nat) (c0 : List Dop.Tok) (c1 : Int) (c2 : List Dop.Nde) (c3 : List Dop.Typ) (c4 c5 c6 c7 : Int) : m65 (n + 1) c0 c1 c2 c3 c4 c5 c6 c7 =
 (m32 c0 c1 c2 c3 c4 c5 c6 c7).bind fun y2 =>
  (m57 ((43 : Int)) (y2.1.1.at_)).bind fun y3 =>
  (m59 ([123] : List UInt8) y2.2.1.1 y2.2.1.2.1 y2.2.1.2.2.1 y2.2.1.2.2.2.1 y2.2.1.2.2.2.2.1 y2.2.1.2.2.2.2.2.1 y2.2.1.2.2.2.2.2.2.1 y2.2.1.2.2.2.2.2.2.2.1).bind fun y4 =>
   m65_4 n (@List.nil Int) y4.2.1.1 y4.2.1.2.1 y4.2.1.2.2.1 y4.2.1.2.2.2.1 y4.2.1.2.2.2.2.1 y4.2.1.2.2.2.2.2.1 y4.2.1.2.2.2.2.2.2.1 y4.2.1.2.2.2.2.2.2.2.1 y3.1.1 := by kernel_rfl
theorem Tryz.m65_4_eq (n : Nat) (l : List (Int)) (c0 : List Dop.Tok) (c1 : Int) (c2 : List Dop.Nde) (c3 : List Dop.Typ) (c4 c5 c6 c7 : Int) (b1 : Dop.Nde) : m65_4 n l c0 c1 c2 c3 c4 c5 c6 c7 b1 =
 (m61 ([125] : List UInt8) c0 c1 c2 c3 c4 c5 c6 c7).bind fun y2 =>
 if (!y2.1.1) = true then
 if (decide (y2.2.1.2.2.2.2.2.2.1 = (0 : Int))) = true then
   (m84 (n) y2.2.1.1 y2.2.1.2.1 y2.2.1.2.2.1 y2.2.1.2.2.2.1 y2.2.1.2.2.2.2.1 y2.2.1.2.2.2.2.2.1 y2.2.1.2.2.2.2.2.2.1 y2.2.1.2.2.2.2.2.2.2.1).bind fun y5 =>
 if (andC none (room (8 : Nat) (l.length + (y5.1.1 :: @List.nil Int).length))) = true then
   m65_4 n (l ++ y5.1.1 :: @List.nil Int) y5.2.1.1 y5.2.1.2.1 y5.2.1.2.2.1 y5.2.1.2.2.2.1 y5.2.1.2.2.2.2.1 y5.2.1.2.2.2.2.2.1 y5.2.1.2.2.2.2.2.2.1 y5.2.1.2.2.2.2.2.2.2.1 (b1)
 else none
 else
   (Tryz.m34.R (((),l,()),(y2.2.1.1,y2.2.1.2.1,y2.2.1.2.2.1,y2.2.1.2.2.2.1,y2.2.1.2.2.2.2.1,y2.2.1.2.2.2.2.2.1,y2.2.1.2.2.2.2.2.2.1,y2.2.1.2.2.2.2.2.2.2.1,()),())).bind fun y5 =>
   (m64 (Dop.Nde.mk b1.kind y5.1.1 b1.b b1.c b1.d b1.text b1.n b1.type_ b1.at_) y5.2.1.1 y5.2.1.2.1 y5.2.1.2.2.1 y5.2.1.2.2.2.1 y5.2.1.2.2.2.2.1 y5.2.1.2.2.2.2.2.1 y5.2.1.2.2.2.2.2.2.1 y5.2.1.2.2.2.2.2.2.2.1).bind fun y6 =>
 some ((y6.1.1,()),((y6.2.1.1,(y6.2.1.2.1,(y6.2.1.2.2.1,(y6.2.1.2.2.2.1,(y6.2.1.2.2.2.2.1,(y6.2.1.2.2.2.2.2.1,(y6.2.1.2.2.2.2.2.2.1,(y6.2.1.2.2.2.2.2.2.2.1,())))))))),()))
 else
  (Tryz.m34.R (((),l,()),(y2.2.1.1,y2.2.1.2.1,y2.2.1.2.2.1,y2.2.1.2.2.2.1,y2.2.1.2.2.2.2.1,y2.2.1.2.2.2.2.2.1,y2.2.1.2.2.2.2.2.2.1,y2.2.1.2.2.2.2.2.2.2.1,()),())).bind fun y4 =>
   (m64 (Dop.Nde.mk b1.kind y4.1.1 b1.b b1.c b1.d b1.text b1.n b1.type_ b1.at_) y4.2.1.1 y4.2.1.2.1 y4.2.1.2.2.1 y4.2.1.2.2.2.1 y4.2.1.2.2.2.2.1 y4.2.1.2.2.2.2.2.1 y4.2.1.2.2.2.2.2.2.1 y4.2.1.2.2.2.2.2.2.2.1).bind fun y5 =>
 some ((y5.1.1,()),((y5.2.1.1,(y5.2.1.2.1,(y5.2.1.2.2.1,(y5.2.1.2.2.2.1,(y5.2.1.2.2.2.2.1,(y5.2.1.2.2.2.2.2.1,(y5.2.1.2.2.2.2.2.2.1,(y5.2.1.2.2.2.2.2.2.2.1,())))))))),())) := Env.cut_eq' (E := Tryz.m65.E n) (f0 := 3000) (c := 4) (q := ⟨[[0,0,0,0,0,0,1,1,1,1],[0,1,0,0,0,0,1,1,1,1],[0,1,0,0,0,1,1,1,1],[2,0,0,0,1,1,1,1],[1,0],[0,1,1,1,1,1]],[0,3,4],2,⟨[.al 0 0,.al 1 0,.own 0 3],[bxB,⟨1,33,[.st 5],false⟩]⟩⟩) (by kernel_rfl) (((),(),l,()),((c0,c1,c2,c3,c4,c5,c6,c7,()),(b1,()),())) (by kernel_rfl) (by kernel_rfl)
theorem Tryz.m84_eq (n : Nat) (c0 : List Dop.Tok) (c1 : Int) (c2 : List Dop.Nde) (c3 : List Dop.Typ) (c4 c5 c6 c7 : Int) : m84 (n + 1) c0 c1 c2 c3 c4 c5 c6 c7 =
 (m102_1000103 (n) c0 c1 c2 c3 c4 c5 c6 c7).bind fun y2 =>
 some ((y2.1.1,()),((y2.2.1.1,(y2.2.1.2.1,(y2.2.1.2.2.1,(y2.2.1.2.2.2.1,(y2.2.1.2.2.2.2.1,(y2.2.1.2.2.2.2.2.1,(y2.2.1.2.2.2.2.2.2.1,(y2.2.1.2.2.2.2.2.2.2.1,())))))))),())) := by kernel_rfl
theorem Tryz.m103_eq (n : Nat) (c0 : List Dop.Tok) (c1 : Int) (c2 : List Dop.Nde) (c3 : List Dop.Typ) (c4 c5 c6 c7 : Int) : m103 (n + 1) c0 c1 c2 c3 c4 c5 c6 c7 =
 (m32 c0 c1 c2 c3 c4 c5 c6 c7).bind fun y2 =>
  (m57 ((44 : Int)) (y2.1.1.at_)).bind fun y3 =>
  (m58 ([123] : List UInt8) y2.2.1.1 y2.2.1.2.1 y2.2.1.2.2.1 y2.2.1.2.2.2.1 y2.2.1.2.2.2.2.1 y2.2.1.2.2.2.2.2.1 y2.2.1.2.2.2.2.2.2.1 y2.2.1.2.2.2.2.2.2.2.1).bind fun y4 =>
 if y4.1.1 = true then
   (m65 (n) y4.2.1.1 y4.2.1.2.1 y4.2.1.2.2.1 y4.2.1.2.2.2.1 y4.2.1.2.2.2.2.1 y4.2.1.2.2.2.2.2.1 y4.2.1.2.2.2.2.2.2.1 y4.2.1.2.2.2.2.2.2.2.1).bind fun y6 =>
 some ((y6.1.1,()),((y6.2.1.1,(y6.2.1.2.1,(y6.2.1.2.2.1,(y6.2.1.2.2.2.1,(y6.2.1.2.2.2.2.1,(y6.2.1.2.2.2.2.2.1,(y6.2.1.2.2.2.2.2.2.1,(y6.2.1.2.2.2.2.2.2.2.1,())))))))),()))
 else
   (m61 ([59] : List UInt8) y4.2.1.1 y4.2.1.2.1 y4.2.1.2.2.1 y4.2.1.2.2.2.1 y4.2.1.2.2.2.2.1 y4.2.1.2.2.2.2.2.1 y4.2.1.2.2.2.2.2.2.1 y4.2.1.2.2.2.2.2.2.2.1).bind fun y6 =>
 if y6.1.1 = true then
    m103_64 n y6.2.1.1 y6.2.1.2.1 y6.2.1.2.2.1 y6.2.1.2.2.2.1 y6.2.1.2.2.2.2.1 y6.2.1.2.2.2.2.2.1 y6.2.1.2.2.2.2.2.2.1 y6.2.1.2.2.2.2.2.2.2.1 y3.1.1
 else
    (m117 y6.2.1.1 y6.2.1.2.1 y6.2.1.2.2.1 y6.2.1.2.2.2.1 y6.2.1.2.2.2.2.1 y6.2.1.2.2.2.2.2.1 y6.2.1.2.2.2.2.2.2.1 y6.2.1.2.2.2.2.2.2.2.1).bind fun y8 =>
 if y8.1.1 = true then
     (m82 y8.2.1.1 y8.2.1.2.1 y8.2.1.2.2.1 y8.2.1.2.2.2.1 y8.2.1.2.2.2.2.1 y8.2.1.2.2.2.2.2.1 y8.2.1.2.2.2.2.2.2.1 y8.2.1.2.2.2.2.2.2.2.1).bind fun y10 =>
      (m60 ((1 : Int)) y10.2.1.1 y10.2.1.2.1 y10.2.1.2.2.1 y10.2.1.2.2.2.1 y10.2.1.2.2.2.2.1 y10.2.1.2.2.2.2.2.1 y10.2.1.2.2.2.2.2.2.1 y10.2.1.2.2.2.2.2.2.2.1).bind fun y11 =>
      (m63 y10.1.1 y11.2.1.1 y11.2.1.2.1 y11.2.1.2.2.1 y11.2.1.2.2.2.1 y11.2.1.2.2.2.2.1 y11.2.1.2.2.2.2.2.1 y11.2.1.2.2.2.2.2.2.1 y11.2.1.2.2.2.2.2.2.2.1).bind fun y12 =>
       (m61 ([61] : List UInt8) y12.2.1.1 y12.2.1.2.1 y12.2.1.2.2.1 y12.2.1.2.2.2.1 y12.2.1.2.2.2.2.1 y12.2.1.2.2.2.2.2.1 y12.2.1.2.2.2.2.2.2.1 y12.2.1.2.2.2.2.2.2.2.1).bind fun y13 =>
 if y13.1.1 = true then
        (m118 (FU) y13.2.1.1 y13.2.1.2.1 y13.2.1.2.2.1 y13.2.1.2.2.2.1 y13.2.1.2.2.2.2.1 y13.2.1.2.2.2.2.2.1 y13.2.1.2.2.2.2.2.2.1 y13.2.1.2.2.2.2.2.2.2.1).bind fun y15 =>
        m103_13 n y15.2.1.1 y15.2.1.2.1 y15.2.1.2.2.1 y15.2.1.2.2.2.1 y15.2.1.2.2.2.2.1 y15.2.1.2.2.2.2.2.1 y15.2.1.2.2.2.2.2.2.1 y15.2.1.2.2.2.2.2.2.2.1 (Dop.Nde.mk (45 : Int) y15.1.1 y3.1.1.b y3.1.1.c y3.1.1.d y11.1.1.text y3.1.1.n y12.1.1 y3.1.1.at_)
 else
        m103_13 n y13.2.1.1 y13.2.1.2.1 y13.2.1.2.2.1 y13.2.1.2.2.2.1 y13.2.1.2.2.2.2.1 y13.2.1.2.2.2.2.2.1 y13.2.1.2.2.2.2.2.2.1 y13.2.1.2.2.2.2.2.2.2.1 (Dop.Nde.mk (45 : Int) y3.1.1.a y3.1.1.b y3.1.1.c y3.1.1.d y11.1.1.text y3.1.1.n y12.1.1 y3.1.1.at_)
 else
     (m61 ([105,102] : List UInt8) y8.2.1.1 y8.2.1.2.1 y8.2.1.2.2.1 y8.2.1.2.2.2.1 y8.2.1.2.2.2.2.1 y8.2.1.2.2.2.2.2.1 y8.2.1.2.2.2.2.2.2.1 y8.2.1.2.2.2.2.2.2.2.1).bind fun y10 =>
 if y10.1.1 = true then
      (m119 y10.2.1.1 y10.2.1.2.1 y10.2.1.2.2.1 y10.2.1.2.2.2.1 y10.2.1.2.2.2.2.1 y10.2.1.2.2.2.2.2.1 y10.2.1.2.2.2.2.2.2.1 y10.2.1.2.2.2.2.2.2.2.1).bind fun y12 =>
       (m84 (n) y12.2.1.1 y12.2.1.2.1 y12.2.1.2.2.1 y12.2.1.2.2.2.1 y12.2.1.2.2.2.2.1 y12.2.1.2.2.2.2.2.1 y12.2.1.2.2.2.2.2.2.1 y12.2.1.2.2.2.2.2.2.2.1).bind fun y13 =>
       (m61 ([101,108,115,101] : List UInt8) y13.2.1.1 y13.2.1.2.1 y13.2.1.2.2.1 y13.2.1.2.2.2.1 y13.2.1.2.2.2.2.1 y13.2.1.2.2.2.2.2.1 y13.2.1.2.2.2.2.2.2.1 y13.2.1.2.2.2.2.2.2.2.1).bind fun y14 =>
 if y14.1.1 = true then
        (m84 (n) y14.2.1.1 y14.2.1.2.1 y14.2.1.2.2.1 y14.2.1.2.2.2.1 y14.2.1.2.2.2.2.1 y14.2.1.2.2.2.2.2.1 y14.2.1.2.2.2.2.2.2.1 y14.2.1.2.2.2.2.2.2.2.1).bind fun y16 =>
         m103_64 n y16.2.1.1 y16.2.1.2.1 y16.2.1.2.2.1 y16.2.1.2.2.2.1 y16.2.1.2.2.2.2.1 y16.2.1.2.2.2.2.2.1 y16.2.1.2.2.2.2.2.2.1 y16.2.1.2.2.2.2.2.2.2.1 (Dop.Nde.mk (31 : Int) y12.1.1 y13.1.1 y16.1.1 y3.1.1.d y3.1.1.text y3.1.1.n y3.1.1.type_ y3.1.1.at_)
 else
        m103_64 n y14.2.1.1 y14.2.1.2.1 y14.2.1.2.2.1 y14.2.1.2.2.2.1 y14.2.1.2.2.2.2.1 y14.2.1.2.2.2.2.2.1 y14.2.1.2.2.2.2.2.2.1 y14.2.1.2.2.2.2.2.2.2.1 (Dop.Nde.mk (31 : Int) y12.1.1 y13.1.1 y3.1.1.c y3.1.1.d y3.1.1.text y3.1.1.n y3.1.1.type_ y3.1.1.at_)
 else
      (m61 ([119,104,105,108,101] : List UInt8) y10.2.1.1 y10.2.1.2.1 y10.2.1.2.2.1 y10.2.1.2.2.2.1 y10.2.1.2.2.2.2.1 y10.2.1.2.2.2.2.2.1 y10.2.1.2.2.2.2.2.2.1 y10.2.1.2.2.2.2.2.2.2.1).bind fun y12 =>
 if y12.1.1 = true then
       (m119 y12.2.1.1 y12.2.1.2.1 y12.2.1.2.2.1 y12.2.1.2.2.2.1 y12.2.1.2.2.2.2.1 y12.2.1.2.2.2.2.2.1 y12.2.1.2.2.2.2.2.2.1 y12.2.1.2.2.2.2.2.2.2.1).bind fun y14 =>
        (m84 (n) y14.2.1.1 y14.2.1.2.1 y14.2.1.2.2.1 y14.2.1.2.2.2.1 y14.2.1.2.2.2.2.1 y14.2.1.2.2.2.2.2.1 y14.2.1.2.2.2.2.2.2.1 y14.2.1.2.2.2.2.2.2.2.1).bind fun y15 =>
        m103_64 n y15.2.1.1 y15.2.1.2.1 y15.2.1.2.2.1 y15.2.1.2.2.2.1 y15.2.1.2.2.2.2.1 y15.2.1.2.2.2.2.2.1 y15.2.1.2.2.2.2.2.2.1 y15.2.1.2.2.2.2.2.2.2.1 (Dop.Nde.mk (32 : Int) y14.1.1 y15.1.1 y3.1.1.c y3.1.1.d y3.1.1.text y3.1.1.n y3.1.1.type_ y3.1.1.at_)
 else
       (m61 ([100,111] : List UInt8) y12.2.1.1 y12.2.1.2.1 y12.2.1.2.2.1 y12.2.1.2.2.2.1 y12.2.1.2.2.2.2.1 y12.2.1.2.2.2.2.2.1 y12.2.1.2.2.2.2.2.2.1 y12.2.1.2.2.2.2.2.2.2.1).bind fun y14 =>
 if y14.1.1 = true then
        (m84 (n) y14.2.1.1 y14.2.1.2.1 y14.2.1.2.2.1 y14.2.1.2.2.2.1 y14.2.1.2.2.2.2.1 y14.2.1.2.2.2.2.2.1 y14.2.1.2.2.2.2.2.2.1 y14.2.1.2.2.2.2.2.2.2.1).bind fun y16 =>
         (m59 ([119,104,105,108,101] : List UInt8) y16.2.1.1 y16.2.1.2.1 y16.2.1.2.2.1 y16.2.1.2.2.2.1 y16.2.1.2.2.2.2.1 y16.2.1.2.2.2.2.2.1 y16.2.1.2.2.2.2.2.2.1 y16.2.1.2.2.2.2.2.2.2.1).bind fun y17 =>
         (m119 y17.2.1.1 y17.2.1.2.1 y17.2.1.2.2.1 y17.2.1.2.2.2.1 y17.2.1.2.2.2.2.1 y17.2.1.2.2.2.2.2.1 y17.2.1.2.2.2.2.2.2.1 y17.2.1.2.2.2.2.2.2.2.1).bind fun y18 =>
          (m59 ([59] : List UInt8) y18.2.1.1 y18.2.1.2.1 y18.2.1.2.2.1 y18.2.1.2.2.2.1 y18.2.1.2.2.2.2.1 y18.2.1.2.2.2.2.2.1 y18.2.1.2.2.2.2.2.2.1 y18.2.1.2.2.2.2.2.2.2.1).bind fun y19 =>
          m103_64 n y19.2.1.1 y19.2.1.2.1 y19.2.1.2.2.1 y19.2.1.2.2.2.1 y19.2.1.2.2.2.2.1 y19.2.1.2.2.2.2.2.1 y19.2.1.2.2.2.2.2.2.1 y19.2.1.2.2.2.2.2.2.2.1 (Dop.Nde.mk (33 : Int) y18.1.1 y16.1.1 y3.1.1.c y3.1.1.d y3.1.1.text y3.1.1.n y3.1.1.type_ y3.1.1.at_)
 else
        (m61 ([102,111,114] : List UInt8) y14.2.1.1 y14.2.1.2.1 y14.2.1.2.2.1 y14.2.1.2.2.2.1 y14.2.1.2.2.2.2.1 y14.2.1.2.2.2.2.2.1 y14.2.1.2.2.2.2.2.2.1 y14.2.1.2.2.2.2.2.2.2.1).bind fun y16 =>
 if y16.1.1 = true then
         (m59 ([40] : List UInt8) y16.2.1.1 y16.2.1.2.1 y16.2.1.2.2.1 y16.2.1.2.2.2.1 y16.2.1.2.2.2.2.1 y16.2.1.2.2.2.2.2.1 y16.2.1.2.2.2.2.2.2.1 y16.2.1.2.2.2.2.2.2.2.1).bind fun y18 =>
          (m120 ([59] : List UInt8) y18.2.1.1 y18.2.1.2.1 y18.2.1.2.2.1 y18.2.1.2.2.2.1 y18.2.1.2.2.2.2.1 y18.2.1.2.2.2.2.2.1 y18.2.1.2.2.2.2.2.2.1 y18.2.1.2.2.2.2.2.2.2.1).bind fun y19 =>
          (m120 ([59] : List UInt8) y19.2.1.1 y19.2.1.2.1 y19.2.1.2.2.1 y19.2.1.2.2.2.1 y19.2.1.2.2.2.2.1 y19.2.1.2.2.2.2.2.1 y19.2.1.2.2.2.2.2.2.1 y19.2.1.2.2.2.2.2.2.2.1).bind fun y20 =>
           (m120 ([41] : List UInt8) y20.2.1.1 y20.2.1.2.1 y20.2.1.2.2.1 y20.2.1.2.2.2.1 y20.2.1.2.2.2.2.1 y20.2.1.2.2.2.2.2.1 y20.2.1.2.2.2.2.2.2.1 y20.2.1.2.2.2.2.2.2.2.1).bind fun y21 =>
           (m84 (n) y21.2.1.1 y21.2.1.2.1 y21.2.1.2.2.1 y21.2.1.2.2.2.1 y21.2.1.2.2.2.2.1 y21.2.1.2.2.2.2.2.1 y21.2.1.2.2.2.2.2.2.1 y21.2.1.2.2.2.2.2.2.2.1).bind fun y22 =>
            m103_64 n y22.2.1.1 y22.2.1.2.1 y22.2.1.2.2.1 y22.2.1.2.2.2.1 y22.2.1.2.2.2.2.1 y22.2.1.2.2.2.2.2.1 y22.2.1.2.2.2.2.2.2.1 y22.2.1.2.2.2.2.2.2.2.1 (Dop.Nde.mk (34 : Int) y19.1.1 y20.1.1 y21.1.1 y22.1.1 y3.1.1.text y3.1.1.n y3.1.1.type_ y3.1.1.at_)
 else
         (m61 ([98,114,101,97,107] : List UInt8) y16.2.1.1 y16.2.1.2.1 y16.2.1.2.2.1 y16.2.1.2.2.2.1 y16.2.1.2.2.2.2.1 y16.2.1.2.2.2.2.2.1 y16.2.1.2.2.2.2.2.2.1 y16.2.1.2.2.2.2.2.2.2.1).bind fun y18 =>
 if y18.1.1 = true then
          (m59 ([59] : List UInt8) y18.2.1.1 y18.2.1.2.1 y18.2.1.2.2.1 y18.2.1.2.2.2.1 y18.2.1.2.2.2.2.1 y18.2.1.2.2.2.2.2.1 y18.2.1.2.2.2.2.2.2.1 y18.2.1.2.2.2.2.2.2.2.1).bind fun y20 =>
           m103_64 n y20.2.1.1 y20.2.1.2.1 y20.2.1.2.2.1 y20.2.1.2.2.2.1 y20.2.1.2.2.2.2.1 y20.2.1.2.2.2.2.2.1 y20.2.1.2.2.2.2.2.2.1 y20.2.1.2.2.2.2.2.2.2.1 (Dop.Nde.mk (35 : Int) y3.1.1.a y3.1.1.b y3.1.1.c y3.1.1.d y3.1.1.text y3.1.1.n y3.1.1.type_ y3.1.1.at_)
 else
          (m61 ([99,111,110,116,105,110,117,101] : List UInt8) y18.2.1.1 y18.2.1.2.1 y18.2.1.2.2.1 y18.2.1.2.2.2.1 y18.2.1.2.2.2.2.1 y18.2.1.2.2.2.2.2.1 y18.2.1.2.2.2.2.2.2.1 y18.2.1.2.2.2.2.2.2.2.1).bind fun y20 =>
 if y20.1.1 = true then
           (m59 ([59] : List UInt8) y20.2.1.1 y20.2.1.2.1 y20.2.1.2.2.1 y20.2.1.2.2.2.1 y20.2.1.2.2.2.2.1 y20.2.1.2.2.2.2.2.1 y20.2.1.2.2.2.2.2.2.1 y20.2.1.2.2.2.2.2.2.2.1).bind fun y22 =>
            m103_64 n y22.2.1.1 y22.2.1.2.1 y22.2.1.2.2.1 y22.2.1.2.2.2.1 y22.2.1.2.2.2.2.1 y22.2.1.2.2.2.2.2.1 y22.2.1.2.2.2.2.2.2.1 y22.2.1.2.2.2.2.2.2.2.1 (Dop.Nde.mk (36 : Int) y3.1.1.a y3.1.1.b y3.1.1.c y3.1.1.d y3.1.1.text y3.1.1.n y3.1.1.type_ y3.1.1.at_)
 else
           (m61 ([114,101,116,117,114,110] : List UInt8) y20.2.1.1 y20.2.1.2.1 y20.2.1.2.2.1 y20.2.1.2.2.2.1 y20.2.1.2.2.2.2.1 y20.2.1.2.2.2.2.2.1 y20.2.1.2.2.2.2.2.2.1 y20.2.1.2.2.2.2.2.2.2.1).bind fun y22 =>
 if y22.1.1 = true then
            (m120 ([59] : List UInt8) y22.2.1.1 y22.2.1.2.1 y22.2.1.2.2.1 y22.2.1.2.2.2.1 y22.2.1.2.2.2.2.1 y22.2.1.2.2.2.2.2.1 y22.2.1.2.2.2.2.2.2.1 y22.2.1.2.2.2.2.2.2.2.1).bind fun y24 =>
             m103_64 n y24.2.1.1 y24.2.1.2.1 y24.2.1.2.2.1 y24.2.1.2.2.2.1 y24.2.1.2.2.2.2.1 y24.2.1.2.2.2.2.2.1 y24.2.1.2.2.2.2.2.2.1 y24.2.1.2.2.2.2.2.2.2.1 (Dop.Nde.mk (37 : Int) y24.1.1 y3.1.1.b y3.1.1.c y3.1.1.d y3.1.1.text y3.1.1.n y3.1.1.type_ y3.1.1.at_)
 else
            (m61 ([103,111,116,111] : List UInt8) y22.2.1.1 y22.2.1.2.1 y22.2.1.2.2.1 y22.2.1.2.2.2.1 y22.2.1.2.2.2.2.1 y22.2.1.2.2.2.2.2.1 y22.2.1.2.2.2.2.2.2.1 y22.2.1.2.2.2.2.2.2.2.1).bind fun y24 =>
 if y24.1.1 = true then
             (m60 ((1 : Int)) y24.2.1.1 y24.2.1.2.1 y24.2.1.2.2.1 y24.2.1.2.2.2.1 y24.2.1.2.2.2.2.1 y24.2.1.2.2.2.2.2.1 y24.2.1.2.2.2.2.2.2.1 y24.2.1.2.2.2.2.2.2.2.1).bind fun y26 =>
              (m59 ([59] : List UInt8) y26.2.1.1 y26.2.1.2.1 y26.2.1.2.2.1 y26.2.1.2.2.2.1 y26.2.1.2.2.2.2.1 y26.2.1.2.2.2.2.2.1 y26.2.1.2.2.2.2.2.2.1 y26.2.1.2.2.2.2.2.2.2.1).bind fun y27 =>
              m103_64 n y27.2.1.1 y27.2.1.2.1 y27.2.1.2.2.1 y27.2.1.2.2.2.1 y27.2.1.2.2.2.2.1 y27.2.1.2.2.2.2.2.1 y27.2.1.2.2.2.2.2.2.1 y27.2.1.2.2.2.2.2.2.2.1 (Dop.Nde.mk (38 : Int) y3.1.1.a y3.1.1.b y3.1.1.c y3.1.1.d y26.1.1.text y3.1.1.n y3.1.1.type_ y3.1.1.at_)
 else
             (m61 ([115,119,105,116,99,104] : List UInt8) y24.2.1.1 y24.2.1.2.1 y24.2.1.2.2.1 y24.2.1.2.2.2.1 y24.2.1.2.2.2.2.1 y24.2.1.2.2.2.2.2.1 y24.2.1.2.2.2.2.2.2.1 y24.2.1.2.2.2.2.2.2.2.1).bind fun y26 =>
 if y26.1.1 = true then
              (m119 y26.2.1.1 y26.2.1.2.1 y26.2.1.2.2.1 y26.2.1.2.2.2.1 y26.2.1.2.2.2.2.1 y26.2.1.2.2.2.2.2.1 y26.2.1.2.2.2.2.2.2.1 y26.2.1.2.2.2.2.2.2.2.1).bind fun y28 =>
               (m65 (n) y28.2.1.1 y28.2.1.2.1 y28.2.1.2.2.1 y28.2.1.2.2.2.1 y28.2.1.2.2.2.2.1 y28.2.1.2.2.2.2.2.1 y28.2.1.2.2.2.2.2.2.1 y28.2.1.2.2.2.2.2.2.2.1).bind fun y29 =>
               m103_64 n y29.2.1.1 y29.2.1.2.1 y29.2.1.2.2.1 y29.2.1.2.2.2.1 y29.2.1.2.2.2.2.1 y29.2.1.2.2.2.2.2.1 y29.2.1.2.2.2.2.2.2.1 y29.2.1.2.2.2.2.2.2.2.1 (Dop.Nde.mk (40 : Int) y28.1.1 y29.1.1 y3.1.1.c y3.1.1.d y3.1.1.text y3.1.1.n y3.1.1.type_ y3.1.1.at_)
 else
              (m61 ([99,97,115,101] : List UInt8) y26.2.1.1 y26.2.1.2.1 y26.2.1.2.2.1 y26.2.1.2.2.2.1 y26.2.1.2.2.2.2.1 y26.2.1.2.2.2.2.2.1 y26.2.1.2.2.2.2.2.2.1 y26.2.1.2.2.2.2.2.2.2.1).bind fun y28 =>
 if y28.1.1 = true then
               (m61 ([45] : List UInt8) y28.2.1.1 y28.2.1.2.1 y28.2.1.2.2.1 y28.2.1.2.2.2.1 y28.2.1.2.2.2.2.1 y28.2.1.2.2.2.2.2.1 y28.2.1.2.2.2.2.2.2.1 y28.2.1.2.2.2.2.2.2.2.1).bind fun y30 =>
 if y30.1.1 = true then
                m103_53 n ((-1 : Int)) y30.2.1.1 y30.2.1.2.1 y30.2.1.2.2.1 y30.2.1.2.2.2.1 y30.2.1.2.2.2.2.1 y30.2.1.2.2.2.2.2.1 y30.2.1.2.2.2.2.2.2.1 y30.2.1.2.2.2.2.2.2.2.1 (Dop.Nde.mk (41 : Int) y3.1.1.a y3.1.1.b y3.1.1.c y3.1.1.d y3.1.1.text y3.1.1.n y3.1.1.type_ y3.1.1.at_)
 else
                m103_53 n ((1 : Int)) y30.2.1.1 y30.2.1.2.1 y30.2.1.2.2.1 y30.2.1.2.2.2.1 y30.2.1.2.2.2.2.1 y30.2.1.2.2.2.2.2.1 y30.2.1.2.2.2.2.2.2.1 y30.2.1.2.2.2.2.2.2.2.1 (Dop.Nde.mk (41 : Int) y3.1.1.a y3.1.1.b y3.1.1.c y3.1.1.d y3.1.1.text y3.1.1.n y3.1.1.type_ y3.1.1.at_)
 else
               (m61 ([100,101,102,97,117,108,116] : List UInt8) y28.2.1.1 y28.2.1.2.1 y28.2.1.2.2.1 y28.2.1.2.2.2.1 y28.2.1.2.2.2.2.1 y28.2.1.2.2.2.2.2.1 y28.2.1.2.2.2.2.2.2.1 y28.2.1.2.2.2.2.2.2.2.1).bind fun y30 =>
 if y30.1.1 = true then
                (m59 ([58] : List UInt8) y30.2.1.1 y30.2.1.2.1 y30.2.1.2.2.1 y30.2.1.2.2.2.1 y30.2.1.2.2.2.2.1 y30.2.1.2.2.2.2.2.1 y30.2.1.2.2.2.2.2.2.1 y30.2.1.2.2.2.2.2.2.2.1).bind fun y32 =>
                 (m84 (n) y32.2.1.1 y32.2.1.2.1 y32.2.1.2.2.1 y32.2.1.2.2.2.1 y32.2.1.2.2.2.2.1 y32.2.1.2.2.2.2.2.1 y32.2.1.2.2.2.2.2.2.1 y32.2.1.2.2.2.2.2.2.2.1).bind fun y33 =>
                 m103_64 n y33.2.1.1 y33.2.1.2.1 y33.2.1.2.2.1 y33.2.1.2.2.2.1 y33.2.1.2.2.2.2.1 y33.2.1.2.2.2.2.2.1 y33.2.1.2.2.2.2.2.2.1 y33.2.1.2.2.2.2.2.2.2.1 (Dop.Nde.mk (42 : Int) y33.1.1 y3.1.1.b y3.1.1.c y3.1.1.d y3.1.1.text y3.1.1.n y3.1.1.type_ y3.1.1.at_)
 else
                (m121 y30.2.1.1 y30.2.1.2.1 y30.2.1.2.2.1 y30.2.1.2.2.2.1 y30.2.1.2.2.2.2.1 y30.2.1.2.2.2.2.2.1 y30.2.1.2.2.2.2.2.2.1 y30.2.1.2.2.2.2.2.2.2.1).bind fun y32 =>
 if y32.1.1 = true then
                 (m60 ((1 : Int)) y32.2.1.1 y32.2.1.2.1 y32.2.1.2.2.1 y32.2.1.2.2.2.1 y32.2.1.2.2.2.2.1 y32.2.1.2.2.2.2.2.1 y32.2.1.2.2.2.2.2.2.1 y32.2.1.2.2.2.2.2.2.2.1).bind fun y34 =>
                  (m59 ([58] : List UInt8) y34.2.1.1 y34.2.1.2.1 y34.2.1.2.2.1 y34.2.1.2.2.2.1 y34.2.1.2.2.2.2.1 y34.2.1.2.2.2.2.2.1 y34.2.1.2.2.2.2.2.2.1 y34.2.1.2.2.2.2.2.2.2.1).bind fun y35 =>
                  (m84 (n) y35.2.1.1 y35.2.1.2.1 y35.2.1.2.2.1 y35.2.1.2.2.2.1 y35.2.1.2.2.2.2.1 y35.2.1.2.2.2.2.2.1 y35.2.1.2.2.2.2.2.2.1 y35.2.1.2.2.2.2.2.2.2.1).bind fun y36 =>
                   m103_64 n y36.2.1.1 y36.2.1.2.1 y36.2.1.2.2.1 y36.2.1.2.2.2.1 y36.2.1.2.2.2.2.1 y36.2.1.2.2.2.2.2.1 y36.2.1.2.2.2.2.2.2.1 y36.2.1.2.2.2.2.2.2.2.1 (Dop.Nde.mk (39 : Int) y36.1.1 y3.1.1.b y3.1.1.c y3.1.1.d y34.1.1.text y3.1.1.n y3.1.1.type_ y3.1.1.at_)
 else
                 (m118 (FU) y32.2.1.1 y32.2.1.2.1 y32.2.1.2.2.1 y32.2.1.2.2.2.1 y32.2.1.2.2.2.2.1 y32.2.1.2.2.2.2.2.1 y32.2.1.2.2.2.2.2.2.1 y32.2.1.2.2.2.2.2.2.2.1).bind fun y34 =>
                  (m59 ([59] : List UInt8) y34.2.1.1 y34.2.1.2.1 y34.2.1.2.2.1 y34.2.1.2.2.2.1 y34.2.1.2.2.2.2.1 y34.2.1.2.2.2.2.2.1 y34.2.1.2.2.2.2.2.2.1 y34.2.1.2.2.2.2.2.2.2.1).bind fun y35 =>
                  m103_64 n y35.2.1.1 y35.2.1.2.1 y35.2.1.2.2.1 y35.2.1.2.2.2.1 y35.2.1.2.2.2.2.1 y35.2.1.2.2.2.2.2.1 y35.2.1.2.2.2.2.2.2.1 y35.2.1.2.2.2.2.2.2.2.1 (Dop.Nde.mk (30 : Int) y34.1.1 y3.1.1.b y3.1.1.c y3.1.1.d y3.1.1.text y3.1.1.n y3.1.1.type_ y3.1.1.at_) := by kernel_rfl
theorem Tryz.m103_64_eq (n : Nat) (c0 : List Dop.Tok) (c1 : Int) (c2 : List Dop.Nde) (c3 : List Dop.Typ) (c4 c5 c6 c7 : Int) (b1 : Dop.Nde) : m103_64 n c0 c1 c2 c3 c4 c5 c6 c7 b1 =
 (m64 (b1) c0 c1 c2 c3 c4 c5 c6 c7).bind fun y2 =>
 some ((y2.1.1,()),((y2.2.1.1,(y2.2.1.2.1,(y2.2.1.2.2.1,(y2.2.1.2.2.2.1,(y2.2.1.2.2.2.2.1,(y2.2.1.2.2.2.2.2.1,(y2.2.1.2.2.2.2.2.2.1,(y2.2.1.2.2.2.2.2.2.2.1,())))))))),())) := Env.cut_eq' (E := Tryz.m103.E n) (f0 := 3000) (c := 64) (q := ⟨[[0,0,1,1,1],[0,1,1,1,1]],[0,3],2,⟨[.al 0 0,.al 1 0],[bxB,⟨1,33,[.st 5],false⟩]⟩⟩) (by kernel_rfl) (((),(),()),((c0,c1,c2,c3,c4,c5,c6,c7,()),(b1,()),())) (by kernel_rfl) (by kernel_rfl)
theorem Tryz.m103_13_eq (n : Nat) (c0 : List Dop.Tok) (c1 : Int) (c2 : List Dop.Nde) (c3 : List Dop.Typ) (c4 c5 c6 c7 : Int) (b1 : Dop.Nde) : m103_13 n c0 c1 c2 c3 c4 c5 c6 c7 b1 =
 (m59 ([59] : List UInt8) c0 c1 c2 c3 c4 c5 c6 c7).bind fun y2 =>
  m103_64 n y2.2.1.1 y2.2.1.2.1 y2.2.1.2.2.1 y2.2.1.2.2.2.1 y2.2.1.2.2.2.2.1 y2.2.1.2.2.2.2.2.1 y2.2.1.2.2.2.2.2.2.1 y2.2.1.2.2.2.2.2.2.2.1 (b1) := Env.cut_eq' (E := Tryz.m103.E n) (f0 := 3000) (c := 13) (q := ⟨[[0,1,1,1,1,0,1,1,1,1,1,0,0,1,1],[1,0],[0,1,1,1]],[0,3],2,⟨[.al 0 0,.al 1 0],[bxB,⟨1,33,[.st 5],false⟩]⟩⟩) (by kernel_rfl) (((),(),()),((c0,c1,c2,c3,c4,c5,c6,c7,()),(b1,()),())) (by kernel_rfl) (by kernel_rfl)
theorem Tryz.m103_53_eq (n : Nat) (t4 : Int) (c0 : List Dop.Tok) (c1 : Int) (c2 : List Dop.Nde) (c3 : List Dop.Typ) (c4 c5 c6 c7 : Int) (b1 : Dop.Nde) : m103_53 n t4 c0 c1 c2 c3 c4 c5 c6 c7 b1 =
 (m60 ((3 : Int)) c0 c1 c2 c3 c4 c5 c6 c7).bind fun y2 =>
 if (inR (t4 * y2.1.1.n)) = true then
  (m59 ([58] : List UInt8) y2.2.1.1 y2.2.1.2.1 y2.2.1.2.2.1 y2.2.1.2.2.2.1 y2.2.1.2.2.2.2.1 y2.2.1.2.2.2.2.2.1 y2.2.1.2.2.2.2.2.2.1 y2.2.1.2.2.2.2.2.2.2.1).bind fun y3 =>
  (m84 (n) y3.2.1.1 y3.2.1.2.1 y3.2.1.2.2.1 y3.2.1.2.2.2.1 y3.2.1.2.2.2.2.1 y3.2.1.2.2.2.2.2.1 y3.2.1.2.2.2.2.2.2.1 y3.2.1.2.2.2.2.2.2.2.1).bind fun y4 =>
   m103_64 n y4.2.1.1 y4.2.1.2.1 y4.2.1.2.2.1 y4.2.1.2.2.2.1 y4.2.1.2.2.2.2.1 y4.2.1.2.2.2.2.2.1 y4.2.1.2.2.2.2.2.2.1 y4.2.1.2.2.2.2.2.2.2.1 (Dop.Nde.mk b1.kind y4.1.1 b1.b b1.c b1.d b1.text (t4 * y2.1.1.n) b1.type_ b1.at_)
 else none := Env.cut_eq' (E := Tryz.m103.E n) (f0 := 3000) (c := 53) (q := ⟨[[0,0,1,1,1,0,1,1,1,1,1,1,1,1,1,1,1,1,1,1,1,1,1,1,1,1,1,1,1,1,1,0,0,1,1],[0,1,1,1,1,0,1,1,1,1,1,1,1,1,1,1,1,1,1,1,1,1,1,1,1,1,1,1,1,1,1,0,0,1,1],[1,0],[0,1,1,1]],[0,3,4],2,⟨[.al 0 0,.al 1 0,.fd (.int .i64)],[bxB,⟨1,33,[.st 5],false⟩]⟩⟩) (by kernel_rfl) (((),(),t4,()),((c0,c1,c2,c3,c4,c5,c6,c7,()),(b1,()),())) (by kernel_rfl) (by kernel_rfl)
def Tryz.m33.p : Pln := ⟨[(7,⟨[[0,0,0,0,0,0,1,1,1,1,0,1,0,1,1],[0,1,0,0,0,0,1,1,1,1,0,1,0,1,1],[0,1,0,0,0,1,1,1,1,0,1,0,1,1],[2,0,0,0,1,1,1,1,0,1,0,1,1],[1,0],[0,1,1,1,1,1,0,1,0,1,1],[0,1,1,1]],[0,3,4],2,⟨[.al 0 0,.al 1 0,.own 0 3],[bxB,⟨1,33,[.st 5],false⟩]⟩⟩),(21,⟨[[0,0,0,0,0,0,1,0,1,0,1,1,1,1,1],[0,1,0,0,0,0,1,0,1,0,1,1,1,1,1],[0,1,0,0,0,1,0,1,0,1,1,1,1,1],[2,0,0,0,1,0,1,0,1,1,1,1,1],[1,2],[0,1,1,0,1,0,1,1,1,1,1],[0,1,1,1,1,1,1]],[0,3,7],2,⟨[.al 0 0,.al 1 0,.own 0 3],[bxB,⟨1,33,[.st 5],false⟩]⟩⟩)],1,⟨[.al 0 0],[bxA]⟩,⟨[.fd (.int .i64)],[bxB]⟩,false,[(2,⟨[(0,true),(1,false),(2,true),(3,true),(4,true),(5,true),(6,false),(7,true),(8,true),(9,true),(10,true),(11,false),(12,false),(13,true),(14,true),(15,true),(16,true),(17,true),(18,true),(19,false),(20,true),(21,true),(22,true),(23,false),(24,true),(25,false),(26,false),(27,false),(28,true),(29,true)],[1000000],[0,1,3,7,15,31,63,127,7,263,775,1799,3847,8191,16383,32767,65535,131071,262143,524287,65535,1114111,3211263,7405567,15794175,33554431,67108863,134217727,268435455,536870911],false⟩),(18,⟨[(0,true),(1,false),(2,true),(3,false),(4,true),(5,false),(6,true),(7,false),(8,true)],[9,1000003],[0,1,0,4,0,16,51,115,255,511],false⟩)],[]⟩
noncomputable def Tryz.m33.E : Env En.Dop.D4 := envOf Tryz.prog 33 Tryz.tb [Tryz.m32.c,Tryz.m57.c,Tryz.m58.c,Tryz.m59.c,Tryz.m60.c,Tryz.m61.c,Tryz.m62.c,Tryz.m63.c,Tryz.m64.c,Tryz.m34.c,Tryz.m65.cf] Tryz.m33.p
theorem Tryz.m33.ok : plnOk En.Dop.D4 Tryz.prog 33 Tryz.m33.p = true := by kernel_rfl
noncomputable def Tryz.m33.c : Ctr En.Dop.D4 := ⟨33,Tryz.m33.p.bn,Tryz.m33.p.sp,Tryz.m33.p.rs,Tryz.m33.p.flat,.opt (Tryz.m33.E.run 3000 Tryz.m33.p.sp)⟩
theorem Tryz.m33.holds : Tryz.m33.c.Holds Tryz.prog := fun_ctr 3000 Tryz.tbOk (hct_cons Tryz.m32.holds (hct_cons Tryz.m57.holds (hct_cons Tryz.m58.holds (hct_cons Tryz.m59.holds (hct_cons Tryz.m60.holds (hct_cons Tryz.m61.holds (hct_cons Tryz.m62.holds (hct_cons Tryz.m63.holds (hct_cons Tryz.m64.holds (hct_cons Tryz.m34.holds (hct_cons Tryz.m65.holdsf hct_nil))))))))))) Tryz.m33.ok
noncomputable def Tryz.m33 (c0 : List Dop.Tok) (c1 : Int) (c2 : List Dop.Nde) (c3 : List Dop.Typ) (c4 c5 c6 c7 : Int) : Option (Spec.D En.Dop.D4 ⟨[.fd (.int .i64)],[bxB]⟩) := Tryz.m33.E.run 3000 Tryz.m33.p.sp (((),()),((c0,c1,c2,c3,c4,c5,c6,c7,()),()))
noncomputable def Tryz.m33_7 (t4 : List (Int)) (c0 : List Dop.Tok) (c1 : Int) (c2 : List Dop.Nde) (c3 : List Dop.Typ) (c4 c5 c6 c7 : Int) (b1 : Dop.Nde) : Option (Spec.D En.Dop.D4 ⟨[.fd (.int .i64)],[bxB]⟩) := Tryz.m33.E.cut 3000 7 (((),(),t4,()),((c0,c1,c2,c3,c4,c5,c6,c7,()),(b1,()),()))
noncomputable def Tryz.m33_21 (t7 : List (Int)) (c0 : List Dop.Tok) (c1 : Int) (c2 : List Dop.Nde) (c3 : List Dop.Typ) (c4 c5 c6 c7 : Int) (b1 : Dop.Nde) : Option (Spec.D En.Dop.D4 ⟨[.fd (.int .i64)],[bxB]⟩) := Tryz.m33.E.cut 3000 21 (((),(),t7,()),((c0,c1,c2,c3,c4,c5,c6,c7,()),(b1,()),()))
theorem Tryz.m33_eq (c0 : List Dop.Tok) (c1 : Int) (c2 : List Dop.Nde) (c3 : List Dop.Typ) (c4 c5 c6 c7 : Int) : m33 c0 c1 c2 c3 c4 c5 c6 c7 =
 (m32 c0 c1 c2 c3 c4 c5 c6 c7).bind fun y2 =>
  (m57 ((53 : Int)) (y2.1.1.at_)).bind fun y3 =>
  (m58 ([115,116,114,117,99,116] : List UInt8) y2.2.1.1 y2.2.1.2.1 y2.2.1.2.2.1 y2.2.1.2.2.2.1 y2.2.1.2.2.2.2.1 y2.2.1.2.2.2.2.2.1 y2.2.1.2.2.2.2.2.2.1 y2.2.1.2.2.2.2.2.2.2.1).bind fun y4 =>
 if y4.1.1 = true then
 if (inR (y4.2.1.2.1 + (2 : Int))) = true then
 if (decide (y4.2.1.2.1 + (2 : Int) < I y4.2.1.1.length)) = true then
 if (inR (y4.2.1.2.1 + (2 : Int))) = true then
 if (decide ((0 : Int) ≤ y4.2.1.2.1 + (2 : Int) ∧ y4.2.1.2.1 + (2 : Int) < I y4.2.1.1.length)) = true then
 if (decide ((@List.getD Dop.Tok y4.2.1.1 (y4.2.1.2.1 + (2 : Int)).toNat Dop.d4).text = (123 : UInt8) :: @List.nil UInt8)) = true then
    (m59 ([115,116,114,117,99,116] : List UInt8) y4.2.1.1 y4.2.1.2.1 y4.2.1.2.2.1 y4.2.1.2.2.2.1 y4.2.1.2.2.2.2.1 y4.2.1.2.2.2.2.2.1 y4.2.1.2.2.2.2.2.2.1 y4.2.1.2.2.2.2.2.2.2.1).bind fun y8 =>
     (m60 ((1 : Int)) y8.2.1.1 y8.2.1.2.1 y8.2.1.2.2.1 y8.2.1.2.2.2.1 y8.2.1.2.2.2.2.1 y8.2.1.2.2.2.2.2.1 y8.2.1.2.2.2.2.2.2.1 y8.2.1.2.2.2.2.2.2.2.1).bind fun y9 =>
     (m59 ([123] : List UInt8) y9.2.1.1 y9.2.1.2.1 y9.2.1.2.2.1 y9.2.1.2.2.2.1 y9.2.1.2.2.2.2.1 y9.2.1.2.2.2.2.2.1 y9.2.1.2.2.2.2.2.2.1 y9.2.1.2.2.2.2.2.2.2.1).bind fun y10 =>
      m33_7 (@List.nil Int) y10.2.1.1 y10.2.1.2.1 y10.2.1.2.2.1 y10.2.1.2.2.2.1 y10.2.1.2.2.2.2.1 y10.2.1.2.2.2.2.2.1 y10.2.1.2.2.2.2.2.2.1 y10.2.1.2.2.2.2.2.2.2.1 (Dop.Nde.mk y3.1.1.kind y3.1.1.a y3.1.1.b y3.1.1.c y3.1.1.d y9.1.1.text y3.1.1.n y3.1.1.type_ y3.1.1.at_)
 else
    (m62 y4.2.1.1 y4.2.1.2.1 y4.2.1.2.2.1 y4.2.1.2.2.2.1 y4.2.1.2.2.2.2.1 y4.2.1.2.2.2.2.2.1 y4.2.1.2.2.2.2.2.2.1 y4.2.1.2.2.2.2.2.2.2.1).bind fun y8 =>
     (m61 ([40] : List UInt8) y8.2.1.1 y8.2.1.2.1 y8.2.1.2.2.1 y8.2.1.2.2.2.1 y8.2.1.2.2.2.2.1 y8.2.1.2.2.2.2.2.1 y8.2.1.2.2.2.2.2.2.1 y8.2.1.2.2.2.2.2.2.2.1).bind fun y9 =>
 if y9.1.1 = true then
      m33_21 (@List.nil Int) y9.2.1.1 y9.2.1.2.1 y9.2.1.2.2.1 y9.2.1.2.2.2.1 y9.2.1.2.2.2.2.1 y9.2.1.2.2.2.2.2.1 y9.2.1.2.2.2.2.2.2.1 y9.2.1.2.2.2.2.2.2.2.1 (Dop.Nde.mk (50 : Int) y3.1.1.a y3.1.1.b y3.1.1.c y3.1.1.d y8.1.1.text y3.1.1.n y8.1.1.type_ y3.1.1.at_)
 else
      (m63 (y8.1.1.type_) y9.2.1.1 y9.2.1.2.1 y9.2.1.2.2.1 y9.2.1.2.2.2.1 y9.2.1.2.2.2.2.1 y9.2.1.2.2.2.2.2.1 y9.2.1.2.2.2.2.2.2.1 y9.2.1.2.2.2.2.2.2.2.1).bind fun y11 =>
      (m61 ([61] : List UInt8) y11.2.1.1 y11.2.1.2.1 y11.2.1.2.2.1 y11.2.1.2.2.2.1 y11.2.1.2.2.2.2.1 y11.2.1.2.2.2.2.2.1 y11.2.1.2.2.2.2.2.2.1 y11.2.1.2.2.2.2.2.2.2.1).bind fun y12 =>
 if y12.1.1 = true then
       (m61 ([45] : List UInt8) y12.2.1.1 y12.2.1.2.1 y12.2.1.2.2.1 y12.2.1.2.2.2.1 y12.2.1.2.2.2.2.1 y12.2.1.2.2.2.2.2.1 y12.2.1.2.2.2.2.2.2.1 y12.2.1.2.2.2.2.2.2.2.1).bind fun y14 =>
 if y14.1.1 = true then
        (m60 ((3 : Int)) y14.2.1.1 y14.2.1.2.1 y14.2.1.2.2.1 y14.2.1.2.2.2.1 y14.2.1.2.2.2.2.1 y14.2.1.2.2.2.2.2.1 y14.2.1.2.2.2.2.2.2.1 y14.2.1.2.2.2.2.2.2.2.1).bind fun y16 =>
 if (inR ((-1 : Int) * y16.1.1.n)) = true then
         (m59 ([59] : List UInt8) y16.2.1.1 y16.2.1.2.1 y16.2.1.2.2.1 y16.2.1.2.2.2.1 y16.2.1.2.2.2.2.1 y16.2.1.2.2.2.2.2.1 y16.2.1.2.2.2.2.2.2.1 y16.2.1.2.2.2.2.2.2.2.1).bind fun y17 =>
         (m64 (Dop.Nde.mk (52 : Int) y3.1.1.a y3.1.1.b y3.1.1.c y3.1.1.d y8.1.1.text ((-1 : Int) * y16.1.1.n) y11.1.1 y3.1.1.at_) y17.2.1.1 y17.2.1.2.1 y17.2.1.2.2.1 y17.2.1.2.2.2.1 y17.2.1.2.2.2.2.1 y17.2.1.2.2.2.2.2.1 y17.2.1.2.2.2.2.2.2.1 y17.2.1.2.2.2.2.2.2.2.1).bind fun y18 =>
 some ((y18.1.1,()),((y18.2.1.1,(y18.2.1.2.1,(y18.2.1.2.2.1,(y18.2.1.2.2.2.1,(y18.2.1.2.2.2.2.1,(y18.2.1.2.2.2.2.2.1,(y18.2.1.2.2.2.2.2.2.1,(y18.2.1.2.2.2.2.2.2.2.1,())))))))),()))
 else none
 else
        (m60 ((3 : Int)) y14.2.1.1 y14.2.1.2.1 y14.2.1.2.2.1 y14.2.1.2.2.2.1 y14.2.1.2.2.2.2.1 y14.2.1.2.2.2.2.2.1 y14.2.1.2.2.2.2.2.2.1 y14.2.1.2.2.2.2.2.2.2.1).bind fun y16 =>
 if (inR ((1 : Int) * y16.1.1.n)) = true then
         (m59 ([59] : List UInt8) y16.2.1.1 y16.2.1.2.1 y16.2.1.2.2.1 y16.2.1.2.2.2.1 y16.2.1.2.2.2.2.1 y16.2.1.2.2.2.2.2.1 y16.2.1.2.2.2.2.2.2.1 y16.2.1.2.2.2.2.2.2.2.1).bind fun y17 =>
         (m64 (Dop.Nde.mk (52 : Int) y3.1.1.a y3.1.1.b y3.1.1.c y3.1.1.d y8.1.1.text ((1 : Int) * y16.1.1.n) y11.1.1 y3.1.1.at_) y17.2.1.1 y17.2.1.2.1 y17.2.1.2.2.1 y17.2.1.2.2.2.1 y17.2.1.2.2.2.2.1 y17.2.1.2.2.2.2.2.1 y17.2.1.2.2.2.2.2.2.1 y17.2.1.2.2.2.2.2.2.2.1).bind fun y18 =>
 some ((y18.1.1,()),((y18.2.1.1,(y18.2.1.2.1,(y18.2.1.2.2.1,(y18.2.1.2.2.2.1,(y18.2.1.2.2.2.2.1,(y18.2.1.2.2.2.2.2.1,(y18.2.1.2.2.2.2.2.2.1,(y18.2.1.2.2.2.2.2.2.2.1,())))))))),()))
 else none
 else
       (m59 ([59] : List UInt8) y12.2.1.1 y12.2.1.2.1 y12.2.1.2.2.1 y12.2.1.2.2.2.1 y12.2.1.2.2.2.2.1 y12.2.1.2.2.2.2.2.1 y12.2.1.2.2.2.2.2.2.1 y12.2.1.2.2.2.2.2.2.2.1).bind fun y14 =>
        (m64 (Dop.Nde.mk (52 : Int) y3.1.1.a y3.1.1.b y3.1.1.c y3.1.1.d y8.1.1.text y3.1.1.n y11.1.1 y3.1.1.at_) y14.2.1.1 y14.2.1.2.1 y14.2.1.2.2.1 y14.2.1.2.2.2.1 y14.2.1.2.2.2.2.1 y14.2.1.2.2.2.2.2.1 y14.2.1.2.2.2.2.2.2.1 y14.2.1.2.2.2.2.2.2.2.1).bind fun y15 =>
 some ((y15.1.1,()),((y15.2.1.1,(y15.2.1.2.1,(y15.2.1.2.2.1,(y15.2.1.2.2.2.1,(y15.2.1.2.2.2.2.1,(y15.2.1.2.2.2.2.2.1,(y15.2.1.2.2.2.2.2.2.1,(y15.2.1.2.2.2.2.2.2.2.1,())))))))),()))
 else none
 else none
 else
    (m62 y4.2.1.1 y4.2.1.2.1 y4.2.1.2.2.1 y4.2.1.2.2.2.1 y4.2.1.2.2.2.2.1 y4.2.1.2.2.2.2.2.1 y4.2.1.2.2.2.2.2.2.1 y4.2.1.2.2.2.2.2.2.2.1).bind fun y7 =>
    (m61 ([40] : List UInt8) y7.2.1.1 y7.2.1.2.1 y7.2.1.2.2.1 y7.2.1.2.2.2.1 y7.2.1.2.2.2.2.1 y7.2.1.2.2.2.2.2.1 y7.2.1.2.2.2.2.2.2.1 y7.2.1.2.2.2.2.2.2.2.1).bind fun y8 =>
 if y8.1.1 = true then
     m33_21 (@List.nil Int) y8.2.1.1 y8.2.1.2.1 y8.2.1.2.2.1 y8.2.1.2.2.2.1 y8.2.1.2.2.2.2.1 y8.2.1.2.2.2.2.2.1 y8.2.1.2.2.2.2.2.2.1 y8.2.1.2.2.2.2.2.2.2.1 (Dop.Nde.mk (50 : Int) y3.1.1.a y3.1.1.b y3.1.1.c y3.1.1.d y7.1.1.text y3.1.1.n y7.1.1.type_ y3.1.1.at_)
 else
     (m63 (y7.1.1.type_) y8.2.1.1 y8.2.1.2.1 y8.2.1.2.2.1 y8.2.1.2.2.2.1 y8.2.1.2.2.2.2.1 y8.2.1.2.2.2.2.2.1 y8.2.1.2.2.2.2.2.2.1 y8.2.1.2.2.2.2.2.2.2.1).bind fun y10 =>
      (m61 ([61] : List UInt8) y10.2.1.1 y10.2.1.2.1 y10.2.1.2.2.1 y10.2.1.2.2.2.1 y10.2.1.2.2.2.2.1 y10.2.1.2.2.2.2.2.1 y10.2.1.2.2.2.2.2.2.1 y10.2.1.2.2.2.2.2.2.2.1).bind fun y11 =>
 if y11.1.1 = true then
       (m61 ([45] : List UInt8) y11.2.1.1 y11.2.1.2.1 y11.2.1.2.2.1 y11.2.1.2.2.2.1 y11.2.1.2.2.2.2.1 y11.2.1.2.2.2.2.2.1 y11.2.1.2.2.2.2.2.2.1 y11.2.1.2.2.2.2.2.2.2.1).bind fun y13 =>
 if y13.1.1 = true then
        (m60 ((3 : Int)) y13.2.1.1 y13.2.1.2.1 y13.2.1.2.2.1 y13.2.1.2.2.2.1 y13.2.1.2.2.2.2.1 y13.2.1.2.2.2.2.2.1 y13.2.1.2.2.2.2.2.2.1 y13.2.1.2.2.2.2.2.2.2.1).bind fun y15 =>
 if (inR ((-1 : Int) * y15.1.1.n)) = true then
        (m59 ([59] : List UInt8) y15.2.1.1 y15.2.1.2.1 y15.2.1.2.2.1 y15.2.1.2.2.2.1 y15.2.1.2.2.2.2.1 y15.2.1.2.2.2.2.2.1 y15.2.1.2.2.2.2.2.2.1 y15.2.1.2.2.2.2.2.2.2.1).bind fun y16 =>
         (m64 (Dop.Nde.mk (52 : Int) y3.1.1.a y3.1.1.b y3.1.1.c y3.1.1.d y7.1.1.text ((-1 : Int) * y15.1.1.n) y10.1.1 y3.1.1.at_) y16.2.1.1 y16.2.1.2.1 y16.2.1.2.2.1 y16.2.1.2.2.2.1 y16.2.1.2.2.2.2.1 y16.2.1.2.2.2.2.2.1 y16.2.1.2.2.2.2.2.2.1 y16.2.1.2.2.2.2.2.2.2.1).bind fun y17 =>
 some ((y17.1.1,()),((y17.2.1.1,(y17.2.1.2.1,(y17.2.1.2.2.1,(y17.2.1.2.2.2.1,(y17.2.1.2.2.2.2.1,(y17.2.1.2.2.2.2.2.1,(y17.2.1.2.2.2.2.2.2.1,(y17.2.1.2.2.2.2.2.2.2.1,())))))))),()))
 else none
 else
        (m60 ((3 : Int)) y13.2.1.1 y13.2.1.2.1 y13.2.1.2.2.1 y13.2.1.2.2.2.1 y13.2.1.2.2.2.2.1 y13.2.1.2.2.2.2.2.1 y13.2.1.2.2.2.2.2.2.1 y13.2.1.2.2.2.2.2.2.2.1).bind fun y15 =>
 if (inR ((1 : Int) * y15.1.1.n)) = true then
        (m59 ([59] : List UInt8) y15.2.1.1 y15.2.1.2.1 y15.2.1.2.2.1 y15.2.1.2.2.2.1 y15.2.1.2.2.2.2.1 y15.2.1.2.2.2.2.2.1 y15.2.1.2.2.2.2.2.2.1 y15.2.1.2.2.2.2.2.2.2.1).bind fun y16 =>
         (m64 (Dop.Nde.mk (52 : Int) y3.1.1.a y3.1.1.b y3.1.1.c y3.1.1.d y7.1.1.text ((1 : Int) * y15.1.1.n) y10.1.1 y3.1.1.at_) y16.2.1.1 y16.2.1.2.1 y16.2.1.2.2.1 y16.2.1.2.2.2.1 y16.2.1.2.2.2.2.1 y16.2.1.2.2.2.2.2.1 y16.2.1.2.2.2.2.2.2.1 y16.2.1.2.2.2.2.2.2.2.1).bind fun y17 =>
 some ((y17.1.1,()),((y17.2.1.1,(y17.2.1.2.1,(y17.2.1.2.2.1,(y17.2.1.2.2.2.1,(y17.2.1.2.2.2.2.1,(y17.2.1.2.2.2.2.2.1,(y17.2.1.2.2.2.2.2.2.1,(y17.2.1.2.2.2.2.2.2.2.1,())))))))),()))
 else none
 else
       (m59 ([59] : List UInt8) y11.2.1.1 y11.2.1.2.1 y11.2.1.2.2.1 y11.2.1.2.2.2.1 y11.2.1.2.2.2.2.1 y11.2.1.2.2.2.2.2.1 y11.2.1.2.2.2.2.2.2.1 y11.2.1.2.2.2.2.2.2.2.1).bind fun y13 =>
       (m64 (Dop.Nde.mk (52 : Int) y3.1.1.a y3.1.1.b y3.1.1.c y3.1.1.d y7.1.1.text y3.1.1.n y10.1.1 y3.1.1.at_) y13.2.1.1 y13.2.1.2.1 y13.2.1.2.2.1 y13.2.1.2.2.2.1 y13.2.1.2.2.2.2.1 y13.2.1.2.2.2.2.2.1 y13.2.1.2.2.2.2.2.2.1 y13.2.1.2.2.2.2.2.2.2.1).bind fun y14 =>
 some ((y14.1.1,()),((y14.2.1.1,(y14.2.1.2.1,(y14.2.1.2.2.1,(y14.2.1.2.2.2.1,(y14.2.1.2.2.2.2.1,(y14.2.1.2.2.2.2.2.1,(y14.2.1.2.2.2.2.2.2.1,(y14.2.1.2.2.2.2.2.2.2.1,())))))))),()))
 else none
 else
   (m62 y4.2.1.1 y4.2.1.2.1 y4.2.1.2.2.1 y4.2.1.2.2.2.1 y4.2.1.2.2.2.2.1 y4.2.1.2.2.2.2.2.1 y4.2.1.2.2.2.2.2.2.1 y4.2.1.2.2.2.2.2.2.2.1).bind fun y6 =>
    (m61 ([40] : List UInt8) y6.2.1.1 y6.2.1.2.1 y6.2.1.2.2.1 y6.2.1.2.2.2.1 y6.2.1.2.2.2.2.1 y6.2.1.2.2.2.2.2.1 y6.2.1.2.2.2.2.2.2.1 y6.2.1.2.2.2.2.2.2.2.1).bind fun y7 =>
 if y7.1.1 = true then
     m33_21 (@List.nil Int) y7.2.1.1 y7.2.1.2.1 y7.2.1.2.2.1 y7.2.1.2.2.2.1 y7.2.1.2.2.2.2.1 y7.2.1.2.2.2.2.2.1 y7.2.1.2.2.2.2.2.2.1 y7.2.1.2.2.2.2.2.2.2.1 (Dop.Nde.mk (50 : Int) y3.1.1.a y3.1.1.b y3.1.1.c y3.1.1.d y6.1.1.text y3.1.1.n y6.1.1.type_ y3.1.1.at_)
 else
     (m63 (y6.1.1.type_) y7.2.1.1 y7.2.1.2.1 y7.2.1.2.2.1 y7.2.1.2.2.2.1 y7.2.1.2.2.2.2.1 y7.2.1.2.2.2.2.2.1 y7.2.1.2.2.2.2.2.2.1 y7.2.1.2.2.2.2.2.2.2.1).bind fun y9 =>
     (m61 ([61] : List UInt8) y9.2.1.1 y9.2.1.2.1 y9.2.1.2.2.1 y9.2.1.2.2.2.1 y9.2.1.2.2.2.2.1 y9.2.1.2.2.2.2.2.1 y9.2.1.2.2.2.2.2.2.1 y9.2.1.2.2.2.2.2.2.2.1).bind fun y10 =>
 if y10.1.1 = true then
      (m61 ([45] : List UInt8) y10.2.1.1 y10.2.1.2.1 y10.2.1.2.2.1 y10.2.1.2.2.2.1 y10.2.1.2.2.2.2.1 y10.2.1.2.2.2.2.2.1 y10.2.1.2.2.2.2.2.2.1 y10.2.1.2.2.2.2.2.2.2.1).bind fun y12 =>
 if y12.1.1 = true then
       (m60 ((3 : Int)) y12.2.1.1 y12.2.1.2.1 y12.2.1.2.2.1 y12.2.1.2.2.2.1 y12.2.1.2.2.2.2.1 y12.2.1.2.2.2.2.2.1 y12.2.1.2.2.2.2.2.2.1 y12.2.1.2.2.2.2.2.2.2.1).bind fun y14 =>
 if (inR ((-1 : Int) * y14.1.1.n)) = true then
        (m59 ([59] : List UInt8) y14.2.1.1 y14.2.1.2.1 y14.2.1.2.2.1 y14.2.1.2.2.2.1 y14.2.1.2.2.2.2.1 y14.2.1.2.2.2.2.2.1 y14.2.1.2.2.2.2.2.2.1 y14.2.1.2.2.2.2.2.2.2.1).bind fun y15 =>
        (m64 (Dop.Nde.mk (52 : Int) y3.1.1.a y3.1.1.b y3.1.1.c y3.1.1.d y6.1.1.text ((-1 : Int) * y14.1.1.n) y9.1.1 y3.1.1.at_) y15.2.1.1 y15.2.1.2.1 y15.2.1.2.2.1 y15.2.1.2.2.2.1 y15.2.1.2.2.2.2.1 y15.2.1.2.2.2.2.2.1 y15.2.1.2.2.2.2.2.2.1 y15.2.1.2.2.2.2.2.2.2.1).bind fun y16 =>
 some ((y16.1.1,()),((y16.2.1.1,(y16.2.1.2.1,(y16.2.1.2.2.1,(y16.2.1.2.2.2.1,(y16.2.1.2.2.2.2.1,(y16.2.1.2.2.2.2.2.1,(y16.2.1.2.2.2.2.2.2.1,(y16.2.1.2.2.2.2.2.2.2.1,())))))))),()))
 else none
 else
       (m60 ((3 : Int)) y12.2.1.1 y12.2.1.2.1 y12.2.1.2.2.1 y12.2.1.2.2.2.1 y12.2.1.2.2.2.2.1 y12.2.1.2.2.2.2.2.1 y12.2.1.2.2.2.2.2.2.1 y12.2.1.2.2.2.2.2.2.2.1).bind fun y14 =>
 if (inR ((1 : Int) * y14.1.1.n)) = true then
        (m59 ([59] : List UInt8) y14.2.1.1 y14.2.1.2.1 y14.2.1.2.2.1 y14.2.1.2.2.2.1 y14.2.1.2.2.2.2.1 y14.2.1.2.2.2.2.2.1 y14.2.1.2.2.2.2.2.2.1 y14.2.1.2.2.2.2.2.2.2.1).bind fun y15 =>
        (m64 (Dop.Nde.mk (52 : Int) y3.1.1.a y3.1.1.b y3.1.1.c y3.1.1.d y6.1.1.text ((1 : Int) * y14.1.1.n) y9.1.1 y3.1.1.at_) y15.2.1.1 y15.2.1.2.1 y15.2.1.2.2.1 y15.2.1.2.2.2.1 y15.2.1.2.2.2.2.1 y15.2.1.2.2.2.2.2.1 y15.2.1.2.2.2.2.2.2.1 y15.2.1.2.2.2.2.2.2.2.1).bind fun y16 =>
 some ((y16.1.1,()),((y16.2.1.1,(y16.2.1.2.1,(y16.2.1.2.2.1,(y16.2.1.2.2.2.1,(y16.2.1.2.2.2.2.1,(y16.2.1.2.2.2.2.2.1,(y16.2.1.2.2.2.2.2.2.1,(y16.2.1.2.2.2.2.2.2.2.1,())))))))),()))
 else none
 else
      (m59 ([59] : List UInt8) y10.2.1.1 y10.2.1.2.1 y10.2.1.2.2.1 y10.2.1.2.2.2.1 y10.2.1.2.2.2.2.1 y10.2.1.2.2.2.2.2.1 y10.2.1.2.2.2.2.2.2.1 y10.2.1.2.2.2.2.2.2.2.1).bind fun y12 =>
       (m64 (Dop.Nde.mk (52 : Int) y3.1.1.a y3.1.1.b y3.1.1.c y3.1.1.d y6.1.1.text y3.1.1.n y9.1.1 y3.1.1.at_) y12.2.1.1 y12.2.1.2.1 y12.2.1.2.2.1 y12.2.1.2.2.2.1 y12.2.1.2.2.2.2.1 y12.2.1.2.2.2.2.2.1 y12.2.1.2.2.2.2.2.2.1 y12.2.1.2.2.2.2.2.2.2.1).bind fun y13 =>
 some ((y13.1.1,()),((y13.2.1.1,(y13.2.1.2.1,(y13.2.1.2.2.1,(y13.2.1.2.2.2.1,(y13.2.1.2.2.2.2.1,(y13.2.1.2.2.2.2.2.1,(y13.2.1.2.2.2.2.2.2.1,(y13.2.1.2.2.2.2.2.2.2.1,())))))))),())) := by kernel_rfl
theorem Tryz.m33_7_eq (t4 : List (Int)) (c0 : List Dop.Tok) (c1 : Int) (c2 : List Dop.Nde) (c3 : List Dop.Typ) (c4 c5 c6 c7 : Int) (b1 : Dop.Nde) : m33_7 t4 c0 c1 c2 c3 c4 c5 c6 c7 b1 =
 if (decide (I t4.length = (0 : Int))) = true then
  (m62 c0 c1 c2 c3 c4 c5 c6 c7).bind fun y3 =>
  (m63 (y3.1.1.type_) y3.2.1.1 y3.2.1.2.1 y3.2.1.2.2.1 y3.2.1.2.2.2.1 y3.2.1.2.2.2.2.1 y3.2.1.2.2.2.2.2.1 y3.2.1.2.2.2.2.2.2.1 y3.2.1.2.2.2.2.2.2.2.1).bind fun y4 =>
   (m59 ([59] : List UInt8) y4.2.1.1 y4.2.1.2.1 y4.2.1.2.2.1 y4.2.1.2.2.2.1 y4.2.1.2.2.2.2.1 y4.2.1.2.2.2.2.2.1 y4.2.1.2.2.2.2.2.2.1 y4.2.1.2.2.2.2.2.2.2.1).bind fun y5 =>
   (m64 (Dop.Nde.mk y3.1.1.kind y3.1.1.a y3.1.1.b y3.1.1.c y3.1.1.d y3.1.1.text y3.1.1.n y4.1.1 y3.1.1.at_) y5.2.1.1 y5.2.1.2.1 y5.2.1.2.2.1 y5.2.1.2.2.2.1 y5.2.1.2.2.2.2.1 y5.2.1.2.2.2.2.2.1 y5.2.1.2.2.2.2.2.2.1 y5.2.1.2.2.2.2.2.2.2.1).bind fun y6 =>
 if (andC none (room (8 : Nat) (t4.length + (y6.1.1 :: @List.nil Int).length))) = true then
 if (!decide (y6.2.1.2.2.2.2.2.2.1 = (0 : Int))) = true then
 some (((-1 : Int),()),((y6.2.1.1,(y6.2.1.2.1,(y6.2.1.2.2.1,(y6.2.1.2.2.2.1,(y6.2.1.2.2.2.2.1,(y6.2.1.2.2.2.2.2.1,(y6.2.1.2.2.2.2.2.2.1,(y6.2.1.2.2.2.2.2.2.2.1,())))))))),()))
 else
    m33_7 (t4 ++ y6.1.1 :: @List.nil Int) y6.2.1.1 y6.2.1.2.1 y6.2.1.2.2.1 y6.2.1.2.2.2.1 y6.2.1.2.2.2.2.1 y6.2.1.2.2.2.2.2.1 y6.2.1.2.2.2.2.2.2.1 y6.2.1.2.2.2.2.2.2.2.1 (b1)
 else none
 else
  (m61 ([125] : List UInt8) c0 c1 c2 c3 c4 c5 c6 c7).bind fun y3 =>
 if (!y3.1.1) = true then
 if (decide (y3.2.1.2.2.2.2.2.2.1 = (0 : Int))) = true then
   (m62 y3.2.1.1 y3.2.1.2.1 y3.2.1.2.2.1 y3.2.1.2.2.2.1 y3.2.1.2.2.2.2.1 y3.2.1.2.2.2.2.2.1 y3.2.1.2.2.2.2.2.2.1 y3.2.1.2.2.2.2.2.2.2.1).bind fun y6 =>
    (m63 (y6.1.1.type_) y6.2.1.1 y6.2.1.2.1 y6.2.1.2.2.1 y6.2.1.2.2.2.1 y6.2.1.2.2.2.2.1 y6.2.1.2.2.2.2.2.1 y6.2.1.2.2.2.2.2.2.1 y6.2.1.2.2.2.2.2.2.2.1).bind fun y7 =>
    (m59 ([59] : List UInt8) y7.2.1.1 y7.2.1.2.1 y7.2.1.2.2.1 y7.2.1.2.2.2.1 y7.2.1.2.2.2.2.1 y7.2.1.2.2.2.2.2.1 y7.2.1.2.2.2.2.2.2.1 y7.2.1.2.2.2.2.2.2.2.1).bind fun y8 =>
     (m64 (Dop.Nde.mk y6.1.1.kind y6.1.1.a y6.1.1.b y6.1.1.c y6.1.1.d y6.1.1.text y6.1.1.n y7.1.1 y6.1.1.at_) y8.2.1.1 y8.2.1.2.1 y8.2.1.2.2.1 y8.2.1.2.2.2.1 y8.2.1.2.2.2.2.1 y8.2.1.2.2.2.2.2.1 y8.2.1.2.2.2.2.2.2.1 y8.2.1.2.2.2.2.2.2.2.1).bind fun y9 =>
 if (andC none (room (8 : Nat) (t4.length + (y9.1.1 :: @List.nil Int).length))) = true then
 if (!decide (y9.2.1.2.2.2.2.2.2.1 = (0 : Int))) = true then
 some (((-1 : Int),()),((y9.2.1.1,(y9.2.1.2.1,(y9.2.1.2.2.1,(y9.2.1.2.2.2.1,(y9.2.1.2.2.2.2.1,(y9.2.1.2.2.2.2.2.1,(y9.2.1.2.2.2.2.2.2.1,(y9.2.1.2.2.2.2.2.2.2.1,())))))))),()))
 else
      m33_7 (t4 ++ y9.1.1 :: @List.nil Int) y9.2.1.1 y9.2.1.2.1 y9.2.1.2.2.1 y9.2.1.2.2.2.1 y9.2.1.2.2.2.2.1 y9.2.1.2.2.2.2.2.1 y9.2.1.2.2.2.2.2.2.1 y9.2.1.2.2.2.2.2.2.2.1 (b1)
 else none
 else
   (m59 ([59] : List UInt8) y3.2.1.1 y3.2.1.2.1 y3.2.1.2.2.1 y3.2.1.2.2.2.1 y3.2.1.2.2.2.2.1 y3.2.1.2.2.2.2.2.1 y3.2.1.2.2.2.2.2.2.1 y3.2.1.2.2.2.2.2.2.2.1).bind fun y6 =>
    (Tryz.m34.R (((),t4,()),(y6.2.1.1,y6.2.1.2.1,y6.2.1.2.2.1,y6.2.1.2.2.2.1,y6.2.1.2.2.2.2.1,y6.2.1.2.2.2.2.2.1,y6.2.1.2.2.2.2.2.2.1,y6.2.1.2.2.2.2.2.2.2.1,()),())).bind fun y7 =>
    (m64 (Dop.Nde.mk b1.kind y7.1.1 b1.b b1.c b1.d b1.text b1.n b1.type_ b1.at_) y7.2.1.1 y7.2.1.2.1 y7.2.1.2.2.1 y7.2.1.2.2.2.1 y7.2.1.2.2.2.2.1 y7.2.1.2.2.2.2.2.1 y7.2.1.2.2.2.2.2.2.1 y7.2.1.2.2.2.2.2.2.2.1).bind fun y8 =>
 some ((y8.1.1,()),((y8.2.1.1,(y8.2.1.2.1,(y8.2.1.2.2.1,(y8.2.1.2.2.2.1,(y8.2.1.2.2.2.2.1,(y8.2.1.2.2.2.2.2.1,(y8.2.1.2.2.2.2.2.2.1,(y8.2.1.2.2.2.2.2.2.2.1,())))))))),()))
 else
   (m59 ([59] : List UInt8) y3.2.1.1 y3.2.1.2.1 y3.2.1.2.2.1 y3.2.1.2.2.2.1 y3.2.1.2.2.2.2.1 y3.2.1.2.2.2.2.2.1 y3.2.1.2.2.2.2.2.2.1 y3.2.1.2.2.2.2.2.2.2.1).bind fun y5 =>
   (Tryz.m34.R (((),t4,()),(y5.2.1.1,y5.2.1.2.1,y5.2.1.2.2.1,y5.2.1.2.2.2.1,y5.2.1.2.2.2.2.1,y5.2.1.2.2.2.2.2.1,y5.2.1.2.2.2.2.2.2.1,y5.2.1.2.2.2.2.2.2.2.1,()),())).bind fun y6 =>
    (m64 (Dop.Nde.mk b1.kind y6.1.1 b1.b b1.c b1.d b1.text b1.n b1.type_ b1.at_) y6.2.1.1 y6.2.1.2.1 y6.2.1.2.2.1 y6.2.1.2.2.2.1 y6.2.1.2.2.2.2.1 y6.2.1.2.2.2.2.2.1 y6.2.1.2.2.2.2.2.2.1 y6.2.1.2.2.2.2.2.2.2.1).bind fun y7 =>
 some ((y7.1.1,()),((y7.2.1.1,(y7.2.1.2.1,(y7.2.1.2.2.1,(y7.2.1.2.2.2.1,(y7.2.1.2.2.2.2.1,(y7.2.1.2.2.2.2.2.1,(y7.2.1.2.2.2.2.2.2.1,(y7.2.1.2.2.2.2.2.2.2.1,())))))))),())) := Env.cut_eq' (E := Tryz.m33.E) (f0 := 3000) (c := 7) (q := ⟨[[0,0,0,0,0,0,1,1,1,1,0,1,0,1,1],[0,1,0,0,0,0,1,1,1,1,0,1,0,1,1],[0,1,0,0,0,1,1,1,1,0,1,0,1,1],[2,0,0,0,1,1,1,1,0,1,0,1,1],[1,0],[0,1,1,1,1,1,0,1,0,1,1],[0,1,1,1]],[0,3,4],2,⟨[.al 0 0,.al 1 0,.own 0 3],[bxB,⟨1,33,[.st 5],false⟩]⟩⟩) (by kernel_rfl) (((),(),t4,()),((c0,c1,c2,c3,c4,c5,c6,c7,()),(b1,()),())) (by kernel_rfl) (by kernel_rfl)
theorem Tryz.m33_21_eq (t7 : List (Int)) (c0 : List Dop.Tok) (c1 : Int) (c2 : List Dop.Nde) (c3 : List Dop.Typ) (c4 c5 c6 c7 : Int) (b1 : Dop.Nde) : m33_21 t7 c0 c1 c2 c3 c4 c5 c6 c7 b1 =
 (m61 ([41] : List UInt8) c0 c1 c2 c3 c4 c5 c6 c7).bind fun y2 =>
 if (!y2.1.1) = true then
 if (decide (y2.2.1.2.2.2.2.2.2.1 = (0 : Int))) = true then
 if (decide ((0 : Int) < I t7.length)) = true then
   (m59 ([44] : List UInt8) y2.2.1.1 y2.2.1.2.1 y2.2.1.2.2.1 y2.2.1.2.2.2.1 y2.2.1.2.2.2.2.1 y2.2.1.2.2.2.2.2.1 y2.2.1.2.2.2.2.2.2.1 y2.2.1.2.2.2.2.2.2.2.1).bind fun y6 =>
    (m62 y6.2.1.1 y6.2.1.2.1 y6.2.1.2.2.1 y6.2.1.2.2.2.1 y6.2.1.2.2.2.2.1 y6.2.1.2.2.2.2.2.1 y6.2.1.2.2.2.2.2.2.1 y6.2.1.2.2.2.2.2.2.2.1).bind fun y7 =>
    (m64 y7.1.1 y7.2.1.1 y7.2.1.2.1 y7.2.1.2.2.1 y7.2.1.2.2.2.1 y7.2.1.2.2.2.2.1 y7.2.1.2.2.2.2.2.1 y7.2.1.2.2.2.2.2.2.1 y7.2.1.2.2.2.2.2.2.2.1).bind fun y8 =>
 if (andC none (room (8 : Nat) (t7.length + (y8.1.1 :: @List.nil Int).length))) = true then
     m33_21 (t7 ++ y8.1.1 :: @List.nil Int) y8.2.1.1 y8.2.1.2.1 y8.2.1.2.2.1 y8.2.1.2.2.2.1 y8.2.1.2.2.2.2.1 y8.2.1.2.2.2.2.2.1 y8.2.1.2.2.2.2.2.2.1 y8.2.1.2.2.2.2.2.2.2.1 (b1)
 else none
 else
   (m62 y2.2.1.1 y2.2.1.2.1 y2.2.1.2.2.1 y2.2.1.2.2.2.1 y2.2.1.2.2.2.2.1 y2.2.1.2.2.2.2.2.1 y2.2.1.2.2.2.2.2.2.1 y2.2.1.2.2.2.2.2.2.2.1).bind fun y6 =>
    (m64 y6.1.1 y6.2.1.1 y6.2.1.2.1 y6.2.1.2.2.1 y6.2.1.2.2.2.1 y6.2.1.2.2.2.2.1 y6.2.1.2.2.2.2.2.1 y6.2.1.2.2.2.2.2.2.1 y6.2.1.2.2.2.2.2.2.2.1).bind fun y7 =>
 if (andC none (room (8 : Nat) (t7.length + (y7.1.1 :: @List.nil Int).length))) = true then
    m33_21 (t7 ++ y7.1.1 :: @List.nil Int) y7.2.1.1 y7.2.1.2.1 y7.2.1.2.2.1 y7.2.1.2.2.2.1 y7.2.1.2.2.2.2.1 y7.2.1.2.2.2.2.2.1 y7.2.1.2.2.2.2.2.2.1 y7.2.1.2.2.2.2.2.2.2.1 (b1)
 else none
 else
   (Tryz.m34.R (((),t7,()),(y2.2.1.1,y2.2.1.2.1,y2.2.1.2.2.1,y2.2.1.2.2.2.1,y2.2.1.2.2.2.2.1,y2.2.1.2.2.2.2.2.1,y2.2.1.2.2.2.2.2.2.1,y2.2.1.2.2.2.2.2.2.2.1,()),())).bind fun y5 =>
   (m65 (FU) y5.2.1.1 y5.2.1.2.1 y5.2.1.2.2.1 y5.2.1.2.2.2.1 y5.2.1.2.2.2.2.1 y5.2.1.2.2.2.2.2.1 y5.2.1.2.2.2.2.2.2.1 y5.2.1.2.2.2.2.2.2.2.1).bind fun y6 =>
    (m64 (Dop.Nde.mk b1.kind y5.1.1 y6.1.1 b1.c b1.d b1.text b1.n b1.type_ b1.at_) y6.2.1.1 y6.2.1.2.1 y6.2.1.2.2.1 y6.2.1.2.2.2.1 y6.2.1.2.2.2.2.1 y6.2.1.2.2.2.2.2.1 y6.2.1.2.2.2.2.2.2.1 y6.2.1.2.2.2.2.2.2.2.1).bind fun y7 =>
 some ((y7.1.1,()),((y7.2.1.1,(y7.2.1.2.1,(y7.2.1.2.2.1,(y7.2.1.2.2.2.1,(y7.2.1.2.2.2.2.1,(y7.2.1.2.2.2.2.2.1,(y7.2.1.2.2.2.2.2.2.1,(y7.2.1.2.2.2.2.2.2.2.1,())))))))),()))
 else
  (Tryz.m34.R (((),t7,()),(y2.2.1.1,y2.2.1.2.1,y2.2.1.2.2.1,y2.2.1.2.2.2.1,y2.2.1.2.2.2.2.1,y2.2.1.2.2.2.2.2.1,y2.2.1.2.2.2.2.2.2.1,y2.2.1.2.2.2.2.2.2.2.1,()),())).bind fun y4 =>
   (m65 (FU) y4.2.1.1 y4.2.1.2.1 y4.2.1.2.2.1 y4.2.1.2.2.2.1 y4.2.1.2.2.2.2.1 y4.2.1.2.2.2.2.2.1 y4.2.1.2.2.2.2.2.2.1 y4.2.1.2.2.2.2.2.2.2.1).bind fun y5 =>
   (m64 (Dop.Nde.mk b1.kind y4.1.1 y5.1.1 b1.c b1.d b1.text b1.n b1.type_ b1.at_) y5.2.1.1 y5.2.1.2.1 y5.2.1.2.2.1 y5.2.1.2.2.2.1 y5.2.1.2.2.2.2.1 y5.2.1.2.2.2.2.2.1 y5.2.1.2.2.2.2.2.2.1 y5.2.1.2.2.2.2.2.2.2.1).bind fun y6 =>
 some ((y6.1.1,()),((y6.2.1.1,(y6.2.1.2.1,(y6.2.1.2.2.1,(y6.2.1.2.2.2.1,(y6.2.1.2.2.2.2.1,(y6.2.1.2.2.2.2.2.1,(y6.2.1.2.2.2.2.2.2.1,(y6.2.1.2.2.2.2.2.2.2.1,())))))))),())) := Env.cut_eq' (E := Tryz.m33.E) (f0 := 3000) (c := 21) (q := ⟨[[0,0,0,0,0,0,1,0,1,0,1,1,1,1,1],[0,1,0,0,0,0,1,0,1,0,1,1,1,1,1],[0,1,0,0,0,1,0,1,0,1,1,1,1,1],[2,0,0,0,1,0,1,0,1,1,1,1,1],[1,2],[0,1,1,0,1,0,1,1,1,1,1],[0,1,1,1,1,1,1]],[0,3,7],2,⟨[.al 0 0,.al 1 0,.own 0 3],[bxB,⟨1,33,[.st 5],false⟩]⟩⟩) (by kernel_rfl) (((),(),t7,()),((c0,c1,c2,c3,c4,c5,c6,c7,()),(b1,()),())) (by kernel_rfl) (by kernel_rfl)
def Tryz.m14.p : Pln := ⟨[(3,⟨[[0,0,0,0,0,1,0,1,1],[0,1,0,0,0,1,0,1,1],[0,1,0,0,1,0,1,1],[2,0,0,1,0,1,1],[1,0],[0,1,1,1]],[2,5,6],2,⟨[.al 0 0,.al 1 0,.fd (.int .i64)],[⟨0,25,[.own 5 33,.own 6 65,.fd (.int .i64)],false⟩,⟨1,77,[.fd (.sl 4),.fd (.int .i64),.own 5 33,.own 6 65,.fd (.int .i64),.fd (.int .i64),.fd (.int .i64),.fd (.int .i64)],false⟩]⟩⟩),(7,⟨[[0,0,0,0,0,0,1,1,1,1],[0,1,0,0,0,0,1,1,1,1],[0,1,0,0,0,1,1,1,1],[2,0,0,0,1,1,1,1],[1,2],[0,1,1,1,1,1]],[2,5,7],2,⟨[.al 0 0,.al 1 0,.own 0 3],[⟨0,25,[.own 5 33,.own 6 65,.fd (.int .i64)],false⟩,⟨1,77,[.fd (.sl 4),.fd (.int .i64),.own 5 33,.own 6 65,.fd (.int .i64),.fd (.int .i64),.fd (.int .i64),.fd (.int .i64)],false⟩]⟩⟩)],0,⟨[.fd (.sl 4)],[]⟩,⟨[.st 7,.fd (.int .i64),.fd (.int .i64)],[]⟩,false,[(11,⟨[(0,true),(1,true),(2,true),(3,true),(4,false),(5,true),(6,true),(7,true),(8,false),(9,false),(10,true),(11,true)],[1000002],[0,0,2,6,14,0,32,96,224,1,543,2047],false⟩)],[]⟩
noncomputable def Tryz.m14.E : Env En.Dop.D4 := envOf Tryz.prog 14 Tryz.tb [Tryz.m32.c,Tryz.m33.c,Tryz.m34.c] Tryz.m14.p
theorem Tryz.m14.ok : plnOk En.Dop.D4 Tryz.prog 14 Tryz.m14.p = true := by kernel_rfl
noncomputable def Tryz.m14.c : Ctr En.Dop.D4 := ⟨14,Tryz.m14.p.bn,Tryz.m14.p.sp,Tryz.m14.p.rs,Tryz.m14.p.flat,.opt (Tryz.m14.E.run 3000 Tryz.m14.p.sp)⟩
theorem Tryz.m14.holds : Tryz.m14.c.Holds Tryz.prog := fun_ctr 3000 Tryz.tbOk (hct_cons Tryz.m32.holds (hct_cons Tryz.m33.holds (hct_cons Tryz.m34.holds hct_nil))) Tryz.m14.ok
noncomputable def Tryz.m14 (o : List (Dop.Tok)) : Option (Spec.D En.Dop.D4 ⟨[.st 7,.fd (.int .i64),.fd (.int .i64)],[]⟩) := Tryz.m14.E.run 3000 Tryz.m14.p.sp ((o,()),())
noncomputable def Tryz.m14_3 (t6 : Int) (c0 : List (Dop.Nde)) (c1 : List (Dop.Typ)) (c2 : Int) (e0 : List Dop.Tok) (e1 : Int) (e2 : List Dop.Nde) (e3 : List Dop.Typ) (e4 e5 e6 e7 : Int) : Option (Spec.D En.Dop.D4 ⟨[.st 7,.fd (.int .i64),.fd (.int .i64)],[]⟩) := Tryz.m14.E.cut 3000 3 (((),(),t6,()),((c0,c1,c2,()),(e0,e1,e2,e3,e4,e5,e6,e7,()),()))
noncomputable def Tryz.m14_7 (t7 : List (Int)) (c0 : List (Dop.Nde)) (c1 : List (Dop.Typ)) (c2 : Int) (e0 : List Dop.Tok) (e1 : Int) (e2 : List Dop.Nde) (e3 : List Dop.Typ) (e4 e5 e6 e7 : Int) : Option (Spec.D En.Dop.D4 ⟨[.st 7,.fd (.int .i64),.fd (.int .i64)],[]⟩) := Tryz.m14.E.cut 3000 7 (((),(),t7,()),((c0,c1,c2,()),(e0,e1,e2,e3,e4,e5,e6,e7,()),()))
theorem Tryz.m14_eq (o : List (Dop.Tok)) : m14 o =
 m14_3 ((0 : Int)) (@List.nil Dop.Nde) (@List.nil Dop.Typ) ((0 : Int)) (o) ((0 : Int)) (@List.nil Dop.Nde) (@List.nil Dop.Typ) ((0 : Int)) ((0 : Int)) ((0 : Int)) ((0 : Int)) := by kernel_rfl
theorem Tryz.m14_3_eq (t6 : Int) (c0 : List (Dop.Nde)) (c1 : List (Dop.Typ)) (c2 : Int) (e0 : List Dop.Tok) (e1 : Int) (e2 : List Dop.Nde) (e3 : List Dop.Typ) (e4 e5 e6 e7 : Int) : m14_3 t6 c0 c1 c2 e0 e1 e2 e3 e4 e5 e6 e7 =
 if (decide (t6 ≤ (3 : Int))) = true then
 if (andC none (room (40 : Nat) (e3.length + (Dop.Typ.mk t6 (0 : Int) (0 : Int) (@List.nil UInt8) :: @List.nil Dop.Typ).length))) = true then
 if (inR (t6 + (1 : Int))) = true then
  m14_3 (t6 + (1 : Int)) c0 c1 c2 e0 e1 e2 (e3 ++ Dop.Typ.mk t6 (0 : Int) (0 : Int) (@List.nil UInt8) :: @List.nil Dop.Typ) e4 e5 e6 e7
 else none
 else none
 else
  m14_7 (@List.nil Int) c0 c1 c2 e0 e1 e2 e3 e4 e5 e6 e7 := Env.cut_eq' (E := Tryz.m14.E) (f0 := 3000) (c := 3) (q := ⟨[[0,0,0,0,0,1,0,1,1],[0,1,0,0,0,1,0,1,1],[0,1,0,0,1,0,1,1],[2,0,0,1,0,1,1],[1,0],[0,1,1,1]],[2,5,6],2,⟨[.al 0 0,.al 1 0,.fd (.int .i64)],[⟨0,25,[.own 5 33,.own 6 65,.fd (.int .i64)],false⟩,⟨1,77,[.fd (.sl 4),.fd (.int .i64),.own 5 33,.own 6 65,.fd (.int .i64),.fd (.int .i64),.fd (.int .i64),.fd (.int .i64)],false⟩]⟩⟩) (by kernel_rfl) (((),(),t6,()),((c0,c1,c2,()),(e0,e1,e2,e3,e4,e5,e6,e7,()),())) (by kernel_rfl) (by kernel_rfl)
theorem Tryz.m14_7_eq (t7 : List (Int)) (c0 : List (Dop.Nde)) (c1 : List (Dop.Typ)) (c2 : Int) (e0 : List Dop.Tok) (e1 : Int) (e2 : List Dop.Nde) (e3 : List Dop.Typ) (e4 e5 e6 e7 : Int) : m14_7 t7 c0 c1 c2 e0 e1 e2 e3 e4 e5 e6 e7 =
 if (decide (e6 = (0 : Int))) = true then
  (m32 e0 e1 e2 e3 e4 e5 e6 e7).bind fun y3 =>
 if (!decide (y3.1.1.kind = (0 : Int))) = true then
   (m33 y3.2.1.1 y3.2.1.2.1 y3.2.1.2.2.1 y3.2.1.2.2.2.1 y3.2.1.2.2.2.2.1 y3.2.1.2.2.2.2.2.1 y3.2.1.2.2.2.2.2.2.1 y3.2.1.2.2.2.2.2.2.2.1).bind fun y5 =>
 if (andC none (room (8 : Nat) (t7.length + (y5.1.1 :: @List.nil Int).length))) = true then
   m14_7 (t7 ++ y5.1.1 :: @List.nil Int) c0 c1 c2 y5.2.1.1 y5.2.1.2.1 y5.2.1.2.2.1 y5.2.1.2.2.2.1 y5.2.1.2.2.2.2.1 y5.2.1.2.2.2.2.2.1 y5.2.1.2.2.2.2.2.2.1 y5.2.1.2.2.2.2.2.2.2.1
 else none
 else
   (Tryz.m34.R (((),t7,()),(y3.2.1.1,y3.2.1.2.1,y3.2.1.2.2.1,y3.2.1.2.2.2.1,y3.2.1.2.2.2.2.1,y3.2.1.2.2.2.2.2.1,y3.2.1.2.2.2.2.2.2.1,y3.2.1.2.2.2.2.2.2.2.1,()),())).bind fun y5 =>
 if (!decide (y5.2.1.2.2.2.2.2.2.1 = (0 : Int))) = true then
 some ((Dop.Tre.mk (@List.nil Dop.Nde) (@List.nil Dop.Typ) (0 : Int),(y5.2.1.2.2.2.2.2.2.2.1,(y5.2.1.2.2.2.2.2.2.1,()))),())
 else
 some ((Dop.Tre.mk y5.2.1.2.2.1 y5.2.1.2.2.2.1 y5.1.1,((0 : Int),((0 : Int),()))),())
 else
  (Tryz.m34.R (((),t7,()),(e0,e1,e2,e3,e4,e5,e6,e7,()),())).bind fun y3 =>
 if (!decide (y3.2.1.2.2.2.2.2.2.1 = (0 : Int))) = true then
 some ((Dop.Tre.mk (@List.nil Dop.Nde) (@List.nil Dop.Typ) (0 : Int),(y3.2.1.2.2.2.2.2.2.2.1,(y3.2.1.2.2.2.2.2.2.1,()))),())
 else
 some ((Dop.Tre.mk y3.2.1.2.2.1 y3.2.1.2.2.2.1 y3.1.1,((0 : Int),((0 : Int),()))),()) := Env.cut_eq' (E := Tryz.m14.E) (f0 := 3000) (c := 7) (q := ⟨[[0,0,0,0,0,0,1,1,1,1],[0,1,0,0,0,0,1,1,1,1],[0,1,0,0,0,1,1,1,1],[2,0,0,0,1,1,1,1],[1,2],[0,1,1,1,1,1]],[2,5,7],2,⟨[.al 0 0,.al 1 0,.own 0 3],[⟨0,25,[.own 5 33,.own 6 65,.fd (.int .i64)],false⟩,⟨1,77,[.fd (.sl 4),.fd (.int .i64),.own 5 33,.own 6 65,.fd (.int .i64),.fd (.int .i64),.fd (.int .i64),.fd (.int .i64)],false⟩]⟩⟩) (by kernel_rfl) (((),(),t7,()),((c0,c1,c2,()),(e0,e1,e2,e3,e4,e5,e6,e7,()),())) (by kernel_rfl) (by kernel_rfl)
def Tryz.m6.p : Pln := ⟨[],0,⟨[.fd .str],[]⟩,⟨[.st 7,.fd (.int .i64),.fd (.int .i64)],[]⟩,false,[],[]⟩
noncomputable def Tryz.m6.E : Env En.Dop.D4 := envOf Tryz.prog 6 Tryz.tb [Tryz.m13.c,Tryz.m14.c] Tryz.m6.p
theorem Tryz.m6.ok : plnOk En.Dop.D4 Tryz.prog 6 Tryz.m6.p = true := by kernel_rfl
noncomputable def Tryz.m6.c : Ctr En.Dop.D4 := ⟨6,Tryz.m6.p.bn,Tryz.m6.p.sp,Tryz.m6.p.rs,Tryz.m6.p.flat,.opt (Tryz.m6.E.run 3000 Tryz.m6.p.sp)⟩
theorem Tryz.m6.holds : Tryz.m6.c.Holds Tryz.prog := fun_ctr 3000 Tryz.tbOk (hct_cons Tryz.m13.holds (hct_cons Tryz.m14.holds hct_nil)) Tryz.m6.ok
noncomputable def Tryz.m6 (s : List UInt8) : Option (Spec.D En.Dop.D4 ⟨[.st 7,.fd (.int .i64),.fd (.int .i64)],[]⟩) := Tryz.m6.E.run 3000 Tryz.m6.p.sp ((s,()),())
theorem Tryz.m6_eq (s : List UInt8) : m6 s =
 (m13 (s)).bind fun y2 =>
 if (!decide (y2.1.2.2.1 = (0 : Int))) = true then
 some ((Dop.Tre.mk (@List.nil Dop.Nde) (@List.nil Dop.Typ) (0 : Int),(y2.1.2.1,(y2.1.2.2.1,()))),())
 else
  (m14 y2.1.1).bind fun y4 =>
 some ((y4.1.1,(y4.1.2.1,(y4.1.2.2.1,()))),()) := by kernel_rfl
def Tryz.m9.p : Pln := ⟨[],0,⟨[],[]⟩,⟨[.fd .bool],[]⟩,true,[],[]⟩
noncomputable def Tryz.m9.E : Env En.Dop.D4 := envOf Tryz.prog 9 Tryz.tb [Tryz.m6.c,Tryz.m22.c,Tryz.m23.c] Tryz.m9.p
theorem Tryz.m9.ok : plnOk En.Dop.D4 Tryz.prog 9 Tryz.m9.p = true := by kernel_rfl
noncomputable def Tryz.m9.c : Ctr En.Dop.D4 := ⟨9,Tryz.m9.p.bn,Tryz.m9.p.sp,Tryz.m9.p.rs,Tryz.m9.p.flat,.opt (Tryz.m9.E.run 3000 Tryz.m9.p.sp)⟩
theorem Tryz.m9.holds : Tryz.m9.c.Holds Tryz.prog := fun_ctr 3000 Tryz.tbOk (hct_cons Tryz.m6.holds (hct_cons Tryz.m22.holds (hct_cons Tryz.m23.holds hct_nil))) Tryz.m9.ok
noncomputable def Tryz.m9 : Option (Spec.D En.Dop.D4 ⟨[.fd .bool],[]⟩) := Tryz.m9.E.run 3000 Tryz.m9.p.sp ((),())
theorem Tryz.m9_eq : m9 =
 (m6 ([105,110,116,32,109,97,105,110,40,41,123,114,101,116,117,114,110,32,49,43,50,42,51,59,125] : List UInt8)).bind fun y2 =>
 (m6 ([105,110,116,32,109,97,105,110,40,41,123,114,101,116,117,114,110,32,40,49,43,40,50,42,51,41,41,59,125] : List UInt8)).bind fun y3 =>
 if (decide (y2.1.2.2.1 = (0 : Int))) = true then
 if (decide (y3.1.2.2.1 = (0 : Int))) = true then
   (m22 y2.1.1 y3.1.1).bind fun y6 =>
 if y6.1.1 = true then
    (m23 y2.1.1).bind fun y8 =>
 some ((y8.1.1,()),())
 else
 some ((false,()),())
 else
 some ((false,()),())
 else
 some ((false,()),()) := by kernel_rfl
def Tryz.m3.p : Pln := ⟨[],0,⟨[.fd (.int .u8),.fd (.int .u8)],[]⟩,⟨[.fd .bool],[]⟩,true,[(6,⟨[(0,true),(1,false),(2,true),(3,true),(4,false),(5,false),(6,false),(7,false),(8,false)],[9],[0,1,0,0,12,28,63,127,0,511],false⟩),(7,⟨[(0,true),(1,false),(2,true),(3,true),(4,false),(5,true),(6,false),(7,false),(8,false),(9,true),(10,true),(11,true),(12,false),(13,true),(14,false),(15,true),(16,false),(17,false),(18,false),(19,false),(20,false),(21,false),(22,true),(23,true),(24,true),(25,true),(26,false),(27,false),(28,false),(29,true),(30,true),(31,true),(32,false),(33,true),(34,true)],[],[0,1,3,7,15,15,47,127,255,511,1023,2047,4095,4095,12287,4095,36863,126975,258047,520191,1048575,2097151,4095,8388607,16777215,33554431,67108863,134217727,268435455,536870911,1073741823,2147483647,4294967295,8589934591,17179869183],true⟩)],[]⟩
noncomputable def Tryz.m3.E : Env En.Dop.D4 := envOf Tryz.prog 3 Tryz.tb [Tryz.repeat.c,Tryz.m6.c,Tryz.m8.c,Tryz.m9.c] Tryz.m3.p
theorem Tryz.m3.ok : plnOk En.Dop.D4 Tryz.prog 3 Tryz.m3.p = true := by kernel_rfl
noncomputable def Tryz.m3.c : Ctr En.Dop.D4 := ⟨3,Tryz.m3.p.bn,Tryz.m3.p.sp,Tryz.m3.p.rs,Tryz.m3.p.flat,.opt (Tryz.m3.E.run 3000 Tryz.m3.p.sp)⟩
theorem Tryz.m3.holds : Tryz.m3.c.Holds Tryz.prog := fun_ctr 3000 Tryz.tbOk (hct_cons Tryz.repeat.holds (hct_cons Tryz.m6.holds (hct_cons Tryz.m8.holds (hct_cons Tryz.m9.holds hct_nil)))) Tryz.m3.ok
noncomputable def Tryz.m3 (o : Int) (t1 : Int) : Option (Spec.D En.Dop.D4 ⟨[.fd .bool],[]⟩) := Tryz.m3.E.run 3000 Tryz.m3.p.sp ((o,t1,()),())
theorem Tryz.m3_eq (o : Int) (t1 : Int) : m3 o t1 =
 if (inR o) = true then
 if (decide ((100 : Int) ≠ (0 : Int))) = true then
 if (inR t1) = true then
 if (decide ((100 : Int) ≠ (0 : Int))) = true then
 if (decide ((0 : Int) ≤ o.tmod (100 : Int) ∧ o.tmod (100 : Int) ≤ (1000000 : Int) ∧ ([105,110,116,32,120,59] : List UInt8).length ≤ (1000000 : Nat))) = true then
 if (decide ((Lib.repeatL ([105,110,116,32,120,59] : List UInt8) (o.tmod (100 : Int)).toNat).length + ([105,110,116,32,109,97,105,110,40,41,123] : List UInt8).length ≤ (9223372036854775807 : Nat))) = true then
 if (decide ((0 : Int) ≤ t1.tmod (100 : Int) ∧ t1.tmod (100 : Int) ≤ (1000000 : Int) ∧ ([59] : List UInt8).length ≤ (1000000 : Nat))) = true then
 if (decide ((Lib.repeatL ([105,110,116,32,120,59] : List UInt8) (o.tmod (100 : Int)).toNat ++ (105 : UInt8) :: (110 : UInt8) :: (116 : UInt8) :: (32 : UInt8) :: (109 : UInt8) :: (97 : UInt8) :: (105 : UInt8) :: (110 : UInt8) :: (40 : UInt8) :: (41 : UInt8) :: (123 : UInt8) :: @List.nil UInt8).length + (Lib.repeatL ([59] : List UInt8) (t1.tmod (100 : Int)).toNat).length ≤ (9223372036854775807 : Nat))) = true then
 if (decide ((Lib.repeatL ([105,110,116,32,120,59] : List UInt8) (o.tmod (100 : Int)).toNat ++ (105 : UInt8) :: (110 : UInt8) :: (116 : UInt8) :: (32 : UInt8) :: (109 : UInt8) :: (97 : UInt8) :: (105 : UInt8) :: (110 : UInt8) :: (40 : UInt8) :: (41 : UInt8) :: (123 : UInt8) :: @List.nil UInt8 ++ Lib.repeatL ([59] : List UInt8) (t1.tmod (100 : Int)).toNat).length + ([125] : List UInt8).length ≤ (9223372036854775807 : Nat))) = true then
 (m6 (Lib.repeatL ([105,110,116,32,120,59] : List UInt8) (o.tmod (100 : Int)).toNat ++ (105 : UInt8) :: (110 : UInt8) :: (116 : UInt8) :: (32 : UInt8) :: (109 : UInt8) :: (97 : UInt8) :: (105 : UInt8) :: (110 : UInt8) :: (40 : UInt8) :: (41 : UInt8) :: (123 : UInt8) :: @List.nil UInt8 ++ Lib.repeatL ([59] : List UInt8) (t1.tmod (100 : Int)).toNat ++ (125 : UInt8) :: @List.nil UInt8)).bind fun y2 =>
 (m8 y2.1.1 (y2.1.1.top)).bind fun y3 =>
 if (!decide (y2.1.2.2.1 = (0 : Int))) = true then
 some ((false,()),())
 else
 if (inR (o.tmod (100 : Int) + (1 : Int))) = true then
 if (!decide (I y3.1.1.length = o.tmod (100 : Int) + (1 : Int))) = true then
 some ((false,()),())
 else
 if (decide ((0 : Int) ≤ o.tmod (100 : Int) ∧ o.tmod (100 : Int) < I y3.1.1.length)) = true then
 if (decide ((o.tmod (100 : Int)).toNat < y3.1.1.length)) = true then
 if (decide ((0 : Int) ≤ @List.getD Int y3.1.1 (o.tmod (100 : Int)).toNat (0 : Int) ∧ @List.getD Int y3.1.1 (o.tmod (100 : Int)).toNat (0 : Int) < I y2.1.1.nodes.length)) = true then
 if (decide ((@List.getD Dop.Nde y2.1.1.nodes (@List.getD Int y3.1.1 (o.tmod (100 : Int)).toNat (0 : Int)).toNat Dop.d5).kind = (50 : Int))) = true then
 (m8 y2.1.1 ((@List.getD Dop.Nde y2.1.1.nodes (@List.getD Int y3.1.1 (o.tmod (100 : Int)).toNat (0 : Int)).toNat Dop.d5).a)).bind fun y7 =>
 if (decide (I y7.1.1.length = (0 : Int))) = true then
 if (decide ((0 : Int) ≤ (@List.getD Dop.Nde y2.1.1.nodes (@List.getD Int y3.1.1 (o.tmod (100 : Int)).toNat (0 : Int)).toNat Dop.d5).b ∧ (@List.getD Dop.Nde y2.1.1.nodes (@List.getD Int y3.1.1 (o.tmod (100 : Int)).toNat (0 : Int)).toNat Dop.d5).b < I y2.1.1.nodes.length)) = true then
 (m8 y2.1.1 ((@List.getD Dop.Nde y2.1.1.nodes (@List.getD Dop.Nde y2.1.1.nodes (@List.getD Int y3.1.1 (o.tmod (100 : Int)).toNat (0 : Int)).toNat Dop.d5).b.toNat Dop.d5).a)).bind fun y9 =>
 if (decide (I y9.1.1.length = t1.tmod (100 : Int))) = true then
 (m8 y2.1.1 ((-1 : Int))).bind fun y11 =>
 if (decide (I y11.1.1.length = (0 : Int))) = true then
 (m9).bind fun y13 =>
 some ((y13.1.1,()),())
 else
 some ((false,()),())
 else
 some ((false,()),())
 else none
 else
 some ((false,()),())
 else
 some ((false,()),())
 else none
 else none
 else none
 else none
 else none
 else none
 else none
 else none
 else none
 else none
 else none
 else none
 else none := by kernel_rfl
end Go.Proofs
