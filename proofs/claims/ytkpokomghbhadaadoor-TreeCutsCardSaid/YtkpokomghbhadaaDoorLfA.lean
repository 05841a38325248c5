/-
 Functions of the seat, lifted: plan, model, contract, equations. Written by a program (Lift) that ran the layer's evaluation; Lean checks each line.
-/
import Derived.Test.YtkpokomghbhadaaDoorEnR
import Derived.Test.YtkpokomghbhadaaDoorLb
import Derived.Test.YtkpokomghbhadaaDoorTab2
set_option maxRecDepth 100000
namespace Go.Proofs
open Go Go.En
open Tryd
abbrev bxA : Box := ⟨0, 52, [.fd (.sl 4), .st 0, .own 5 36, .own 6 39, .st 0, .st 0, .fd (.int .i64), .st 0], false⟩
abbrev bxB : Box := ⟨0, 52, [.fd (.sl 4), .fd (.int .i64), .own 5 36, .own 6 39, .fd (.int .i64), .fd (.int .i64), .fd (.int .i64), .fd (.int .i64)], false⟩
def Tryd.m30.p : Pln := ⟨[], 1, ⟨[.al 0 0], [bxA]⟩, ⟨[.fd (.int .i64)], [bxB]⟩, false, [(3, ⟨[(0, true), (1, true), (2, true), (3, false), (4, true), (5, true), (6, true), (7, false), (8, false), (9, true), (10, false), (11, false), (12, false)], [13], [0, 1, 3, 7, 0, 16, 48, 112, 240, 496, 1023, 2047, 0, 8191], false⟩)], []⟩
noncomputable def Tryd.m30.E : Env En.Dop.D4 := envOf Tryd.prog 30 Tryd.tb [] Tryd.m30.p
theorem Tryd.m30.ok : plnOk En.Dop.D4 Tryd.prog 30 Tryd.m30.p = true := by kernel_rfl
noncomputable def Tryd.m30.c : Ctr En.Dop.D4 := ⟨30, Tryd.m30.p.bn, Tryd.m30.p.sp, Tryd.m30.p.rs, Tryd.m30.p.flat, .opt (Tryd.m30.E.run 3000 Tryd.m30.p.sp)⟩
theorem Tryd.m30.holds : Tryd.m30.c.Holds Tryd.prog := fun_ctr 3000 Tryd.tbOk hct_nil Tryd.m30.ok
noncomputable def Tryd.m30 (c0 : List Dop.Tok) (c1 : Int) (c2 : List Dop.Nde) (c3 : List Dop.Typ) (c4 c5 c6 c7 : Int) : Option (Spec.D En.Dop.D4 ⟨[.fd (.int .i64)], [bxB]⟩) := Tryd.m30.E.run 3000 Tryd.m30.p.sp (((), ()), ((c0, c1, c2, c3, c4, c5, c6, c7, ()), ()))
theorem Tryd.m30_eq (c0 : List Dop.Tok) (c1 : Int) (c2 : List Dop.Nde) (c3 : List Dop.Typ) (c4 c5 c6 c7 : Int) : m30 c0 c1 c2 c3 c4 c5 c6 c7 =
 if (decide (I c0.length = (0 : Int))) = true then
 some (((0 : Int), ()), ((c0, (c1, (c2, (c3, (c4, (c5, (c6, (c7, ())))))))), ()))
 else
 if (inR (I c0.length - (1 : Int))) = true then
 if (decide ((0 : Int) ≤ I c0.length - (1 : Int) ∧ I c0.length - (1 : Int) < I c0.length)) = true then
 if (inR ((@List.getD Dop.Tok c0 (I c0.length - (1 : Int)).toNat Dop.d4).at_ + I (@List.getD Dop.Tok c0 (I c0.length - (1 : Int)).toNat Dop.d4).text.length)) = true then
 some (((@List.getD Dop.Tok c0 (I c0.length - (1 : Int)).toNat Dop.d4).at_ + I (@List.getD Dop.Tok c0 (I c0.length - (1 : Int)).toNat Dop.d4).text.length, ()), ((c0, (c1, (c2, (c3, (c4, (c5, (c6, (c7, ())))))))), ()))
 else none
 else none
 else none := by kernel_rfl
def Tryd.m14.p : Pln := ⟨[], 1, ⟨[.al 0 0], [bxA]⟩, ⟨[.st 4], [bxB]⟩, false, [(1, ⟨[(0, true), (1, true), (2, true), (3, false), (4, true), (5, true), (6, true), (7, true), (8, true), (9, false), (10, true), (11, true), (12, true), (13, false), (14, false), (15, true), (16, true)], [], [0, 1, 3, 7, 15, 31, 63, 127, 255, 511, 63, 1087, 3135, 7231, 15423, 32767, 65535], false⟩), (3, ⟨[(0, true), (1, true), (2, true), (3, false), (4, true), (5, true), (6, true), (7, false), (8, false), (9, false)], [10], [0, 1, 3, 7, 0, 16, 48, 112, 255, 511, 1023], false⟩)], []⟩
noncomputable def Tryd.m14.E : Env En.Dop.D4 := envOf Tryd.prog 14 Tryd.tb [Tryd.m30.c] Tryd.m14.p
theorem Tryd.m14.ok : plnOk En.Dop.D4 Tryd.prog 14 Tryd.m14.p = true := by kernel_rfl
noncomputable def Tryd.m14.c : Ctr En.Dop.D4 := ⟨14, Tryd.m14.p.bn, Tryd.m14.p.sp, Tryd.m14.p.rs, Tryd.m14.p.flat, .opt (Tryd.m14.E.run 3000 Tryd.m14.p.sp)⟩
theorem Tryd.m14.holds : Tryd.m14.c.Holds Tryd.prog := fun_ctr 3000 Tryd.tbOk (hct_cons Tryd.m30.holds hct_nil) Tryd.m14.ok
noncomputable def Tryd.m14 (c0 : List Dop.Tok) (c1 : Int) (c2 : List Dop.Nde) (c3 : List Dop.Typ) (c4 c5 c6 c7 : Int) : Option (Spec.D En.Dop.D4 ⟨[.st 4], [bxB]⟩) := Tryd.m14.E.run 3000 Tryd.m14.p.sp (((), ()), ((c0, c1, c2, c3, c4, c5, c6, c7, ()), ()))
theorem Tryd.m14_eq (c0 : List Dop.Tok) (c1 : Int) (c2 : List Dop.Nde) (c3 : List Dop.Typ) (c4 c5 c6 c7 : Int) : m14 c0 c1 c2 c3 c4 c5 c6 c7 =
 if (!decide (c6 = (0 : Int))) = true then
  (m30 c0 c1 c2 c3 c4 c5 c6 c7).bind fun y3 =>
 some ((Dop.Tok.mk (0 : Int) (@List.nil UInt8) (0 : Int) y3.1.1, ()), ((y3.2.1.1, (y3.2.1.2.1, (y3.2.1.2.2.1, (y3.2.1.2.2.2.1, (y3.2.1.2.2.2.2.1, (y3.2.1.2.2.2.2.2.1, (y3.2.1.2.2.2.2.2.2.1, (y3.2.1.2.2.2.2.2.2.2.1, ())))))))), ()))
 else
 if (decide (I c0.length ≤ c1)) = true then
  (m30 c0 c1 c2 c3 c4 c5 c6 c7).bind fun y4 =>
 some ((Dop.Tok.mk (0 : Int) (@List.nil UInt8) (0 : Int) y4.1.1, ()), ((y4.2.1.1, (y4.2.1.2.1, (y4.2.1.2.2.1, (y4.2.1.2.2.2.1, (y4.2.1.2.2.2.2.1, (y4.2.1.2.2.2.2.2.1, (y4.2.1.2.2.2.2.2.2.1, (y4.2.1.2.2.2.2.2.2.2.1, ())))))))), ()))
 else
 if (decide ((0 : Int) ≤ c1 ∧ c1 < I c0.length)) = true then
 some ((@List.getD Dop.Tok c0 c1.toNat Dop.d4, ()), ((c0, (c1, (c2, (c3, (c4, (c5, (c6, (c7, ())))))))), ()))
 else none := by kernel_rfl
def Tryd.m32.p : Pln := ⟨[], 1, ⟨[.al 0 0, .fd .str], [bxA]⟩, ⟨[.fd .bool], [bxB]⟩, false, [], []⟩
noncomputable def Tryd.m32.E : Env En.Dop.D4 := envOf Tryd.prog 32 Tryd.tb [Tryd.m14.c] Tryd.m32.p
theorem Tryd.m32.ok : plnOk En.Dop.D4 Tryd.prog 32 Tryd.m32.p = true := by kernel_rfl
noncomputable def Tryd.m32.c : Ctr En.Dop.D4 := ⟨32, Tryd.m32.p.bn, Tryd.m32.p.sp, Tryd.m32.p.rs, Tryd.m32.p.flat, .opt (Tryd.m32.E.run 3000 Tryd.m32.p.sp)⟩
theorem Tryd.m32.holds : Tryd.m32.c.Holds Tryd.prog := fun_ctr 3000 Tryd.tbOk (hct_cons Tryd.m14.holds hct_nil) Tryd.m32.ok
noncomputable def Tryd.m32 (s : List UInt8) (c0 : List Dop.Tok) (c1 : Int) (c2 : List Dop.Nde) (c3 : List Dop.Typ) (c4 c5 c6 c7 : Int) : Option (Spec.D En.Dop.D4 ⟨[.fd .bool], [bxB]⟩) := Tryd.m32.E.run 3000 Tryd.m32.p.sp (((), s, ()), ((c0, c1, c2, c3, c4, c5, c6, c7, ()), ()))
theorem Tryd.m32_eq (s : List UInt8) (c0 : List Dop.Tok) (c1 : Int) (c2 : List Dop.Nde) (c3 : List Dop.Typ) (c4 c5 c6 c7 : Int) : m32 s c0 c1 c2 c3 c4 c5 c6 c7 =
 (m14 c0 c1 c2 c3 c4 c5 c6 c7).bind fun y2 =>
 if (decide (y2.1.1.kind = (4 : Int))) = true then
 some ((decide (y2.1.1.text = s), ()), ((y2.2.1.1, (y2.2.1.2.1, (y2.2.1.2.2.1, (y2.2.1.2.2.2.1, (y2.2.1.2.2.2.2.1, (y2.2.1.2.2.2.2.2.1, (y2.2.1.2.2.2.2.2.2.1, (y2.2.1.2.2.2.2.2.2.2.1, ())))))))), ()))
 else
 if (decide (y2.1.1.kind = (2 : Int))) = true then
 some ((decide (y2.1.1.text = s), ()), ((y2.2.1.1, (y2.2.1.2.1, (y2.2.1.2.2.1, (y2.2.1.2.2.2.1, (y2.2.1.2.2.2.2.1, (y2.2.1.2.2.2.2.2.1, (y2.2.1.2.2.2.2.2.2.1, (y2.2.1.2.2.2.2.2.2.2.1, ())))))))), ()))
 else
 some ((false, ()), ((y2.2.1.1, (y2.2.1.2.1, (y2.2.1.2.2.1, (y2.2.1.2.2.2.1, (y2.2.1.2.2.2.2.1, (y2.2.1.2.2.2.2.2.1, (y2.2.1.2.2.2.2.2.2.1, (y2.2.1.2.2.2.2.2.2.2.1, ())))))))), ())) := by kernel_rfl
def Tryd.m35.p : Pln := ⟨[], 1, ⟨[.al 0 0, .fd .str], [bxA]⟩, ⟨[.fd .bool], [bxB]⟩, false, [], []⟩
noncomputable def Tryd.m35.E : Env En.Dop.D4 := envOf Tryd.prog 35 Tryd.tb [Tryd.m32.c] Tryd.m35.p
theorem Tryd.m35.ok : plnOk En.Dop.D4 Tryd.prog 35 Tryd.m35.p = true := by kernel_rfl
noncomputable def Tryd.m35.c : Ctr En.Dop.D4 := ⟨35, Tryd.m35.p.bn, Tryd.m35.p.sp, Tryd.m35.p.rs, Tryd.m35.p.flat, .opt (Tryd.m35.E.run 3000 Tryd.m35.p.sp)⟩
theorem Tryd.m35.holds : Tryd.m35.c.Holds Tryd.prog := fun_ctr 3000 Tryd.tbOk (hct_cons Tryd.m32.holds hct_nil) Tryd.m35.ok
noncomputable def Tryd.m35 (s : List UInt8) (c0 : List Dop.Tok) (c1 : Int) (c2 : List Dop.Nde) (c3 : List Dop.Typ) (c4 c5 c6 c7 : Int) : Option (Spec.D En.Dop.D4 ⟨[.fd .bool], [bxB]⟩) := Tryd.m35.E.run 3000 Tryd.m35.p.sp (((), s, ()), ((c0, c1, c2, c3, c4, c5, c6, c7, ()), ()))
theorem Tryd.m35_eq (s : List UInt8) (c0 : List Dop.Tok) (c1 : Int) (c2 : List Dop.Nde) (c3 : List Dop.Typ) (c4 c5 c6 c7 : Int) : m35 s c0 c1 c2 c3 c4 c5 c6 c7 =
 (m32 (s) c0 c1 c2 c3 c4 c5 c6 c7).bind fun y2 =>
 if (!y2.1.1) = true then
 some ((false, ()), ((y2.2.1.1, (y2.2.1.2.1, (y2.2.1.2.2.1, (y2.2.1.2.2.2.1, (y2.2.1.2.2.2.2.1, (y2.2.1.2.2.2.2.2.1, (y2.2.1.2.2.2.2.2.2.1, (y2.2.1.2.2.2.2.2.2.2.1, ())))))))), ()))
 else
 if (inR (y2.2.1.2.1 + (1 : Int))) = true then
 some ((true, ()), ((y2.2.1.1, (y2.2.1.2.1 + (1 : Int), (y2.2.1.2.2.1, (y2.2.1.2.2.2.1, (y2.2.1.2.2.2.2.1, (y2.2.1.2.2.2.2.2.1, (y2.2.1.2.2.2.2.2.2.1, (y2.2.1.2.2.2.2.2.2.2.1, ())))))))), ()))
 else none := by kernel_rfl
def Tryd.m48.p : Pln := ⟨[], 1, ⟨[.al 0 0, .fd (.int .i64)], [bxA]⟩, ⟨[], [bxB]⟩, false, [], []⟩
noncomputable def Tryd.m48.E : Env En.Dop.D4 := envOf Tryd.prog 48 Tryd.tb [Tryd.m14.c] Tryd.m48.p
theorem Tryd.m48.ok : plnOk En.Dop.D4 Tryd.prog 48 Tryd.m48.p = true := by kernel_rfl
noncomputable def Tryd.m48.c : Ctr En.Dop.D4 := ⟨48, Tryd.m48.p.bn, Tryd.m48.p.sp, Tryd.m48.p.rs, Tryd.m48.p.flat, .opt (Tryd.m48.E.run 3000 Tryd.m48.p.sp)⟩
theorem Tryd.m48.holds : Tryd.m48.c.Holds Tryd.prog := fun_ctr 3000 Tryd.tbOk (hct_cons Tryd.m14.holds hct_nil) Tryd.m48.ok
noncomputable def Tryd.m48 (e : Int) (c0 : List Dop.Tok) (c1 : Int) (c2 : List Dop.Nde) (c3 : List Dop.Typ) (c4 c5 c6 c7 : Int) : Option (Spec.D En.Dop.D4 ⟨[], [bxB]⟩) := Tryd.m48.E.run 3000 Tryd.m48.p.sp (((), e, ()), ((c0, c1, c2, c3, c4, c5, c6, c7, ()), ()))
theorem Tryd.m48_eq (e : Int) (c0 : List Dop.Tok) (c1 : Int) (c2 : List Dop.Nde) (c3 : List Dop.Typ) (c4 c5 c6 c7 : Int) : m48 e c0 c1 c2 c3 c4 c5 c6 c7 =
 if (decide (c6 = (0 : Int))) = true then
  (m14 c0 c1 c2 c3 c4 c5 c6 c7).bind fun y3 =>
 some ((), ((y3.2.1.1, (y3.2.1.2.1, (y3.2.1.2.2.1, (y3.2.1.2.2.2.1, (y3.2.1.2.2.2.2.1, (y3.2.1.2.2.2.2.2.1, (e, (y3.1.1.at_, ())))))))), ()))
 else
 some ((), ((c0, (c1, (c2, (c3, (c4, (c5, (c6, (c7, ())))))))), ())) := by kernel_rfl
def Tryd.m33.p : Pln := ⟨[], 1, ⟨[.al 0 0, .fd .str], [bxA]⟩, ⟨[], [bxB]⟩, false, [], []⟩
noncomputable def Tryd.m33.E : Env En.Dop.D4 := envOf Tryd.prog 33 Tryd.tb [Tryd.m35.c, Tryd.m48.c] Tryd.m33.p
theorem Tryd.m33.ok : plnOk En.Dop.D4 Tryd.prog 33 Tryd.m33.p = true := by kernel_rfl
noncomputable def Tryd.m33.c : Ctr En.Dop.D4 := ⟨33, Tryd.m33.p.bn, Tryd.m33.p.sp, Tryd.m33.p.rs, Tryd.m33.p.flat, .opt (Tryd.m33.E.run 3000 Tryd.m33.p.sp)⟩
theorem Tryd.m33.holds : Tryd.m33.c.Holds Tryd.prog := fun_ctr 3000 Tryd.tbOk (hct_cons Tryd.m35.holds (hct_cons Tryd.m48.holds hct_nil)) Tryd.m33.ok
noncomputable def Tryd.m33 (s : List UInt8) (c0 : List Dop.Tok) (c1 : Int) (c2 : List Dop.Nde) (c3 : List Dop.Typ) (c4 c5 c6 c7 : Int) : Option (Spec.D En.Dop.D4 ⟨[], [bxB]⟩) := Tryd.m33.E.run 3000 Tryd.m33.p.sp (((), s, ()), ((c0, c1, c2, c3, c4, c5, c6, c7, ()), ()))
theorem Tryd.m33_eq (s : List UInt8) (c0 : List Dop.Tok) (c1 : Int) (c2 : List Dop.Nde) (c3 : List Dop.Typ) (c4 c5 c6 c7 : Int) : m33 s c0 c1 c2 c3 c4 c5 c6 c7 =
 (m35 (s) c0 c1 c2 c3 c4 c5 c6 c7).bind fun y2 =>
 if (!y2.1.1) = true then
  (m48 ((5 : Int)) y2.2.1.1 y2.2.1.2.1 y2.2.1.2.2.1 y2.2.1.2.2.2.1 y2.2.1.2.2.2.2.1 y2.2.1.2.2.2.2.2.1 y2.2.1.2.2.2.2.2.2.1 y2.2.1.2.2.2.2.2.2.2.1).bind fun y4 =>
 some ((), ((y4.2.1.1, (y4.2.1.2.1, (y4.2.1.2.2.1, (y4.2.1.2.2.2.1, (y4.2.1.2.2.2.2.1, (y4.2.1.2.2.2.2.2.1, (y4.2.1.2.2.2.2.2.2.1, (y4.2.1.2.2.2.2.2.2.2.1, ())))))))), ()))
 else
 some ((), ((y2.2.1.1, (y2.2.1.2.1, (y2.2.1.2.2.1, (y2.2.1.2.2.2.1, (y2.2.1.2.2.2.2.1, (y2.2.1.2.2.2.2.2.1, (y2.2.1.2.2.2.2.2.2.1, (y2.2.1.2.2.2.2.2.2.2.1, ())))))))), ())) := by kernel_rfl
def Tryd.m34.p : Pln := ⟨[], 1, ⟨[.al 0 0, .fd (.int .i64)], [bxA]⟩, ⟨[.st 4], [bxB]⟩, false, [], []⟩
noncomputable def Tryd.m34.E : Env En.Dop.D4 := envOf Tryd.prog 34 Tryd.tb [Tryd.m14.c, Tryd.m48.c] Tryd.m34.p
theorem Tryd.m34.ok : plnOk En.Dop.D4 Tryd.prog 34 Tryd.m34.p = true := by kernel_rfl
noncomputable def Tryd.m34.c : Ctr En.Dop.D4 := ⟨34, Tryd.m34.p.bn, Tryd.m34.p.sp, Tryd.m34.p.rs, Tryd.m34.p.flat, .opt (Tryd.m34.E.run 3000 Tryd.m34.p.sp)⟩
theorem Tryd.m34.holds : Tryd.m34.c.Holds Tryd.prog := fun_ctr 3000 Tryd.tbOk (hct_cons Tryd.m14.holds (hct_cons Tryd.m48.holds hct_nil)) Tryd.m34.ok
noncomputable def Tryd.m34 (k : Int) (c0 : List Dop.Tok) (c1 : Int) (c2 : List Dop.Nde) (c3 : List Dop.Typ) (c4 c5 c6 c7 : Int) : Option (Spec.D En.Dop.D4 ⟨[.st 4], [bxB]⟩) := Tryd.m34.E.run 3000 Tryd.m34.p.sp (((), k, ()), ((c0, c1, c2, c3, c4, c5, c6, c7, ()), ()))
theorem Tryd.m34_eq (k : Int) (c0 : List Dop.Tok) (c1 : Int) (c2 : List Dop.Nde) (c3 : List Dop.Typ) (c4 c5 c6 c7 : Int) : m34 k c0 c1 c2 c3 c4 c5 c6 c7 =
 (m14 c0 c1 c2 c3 c4 c5 c6 c7).bind fun y2 =>
 if (!decide (y2.1.1.kind = k)) = true then
  (m48 ((5 : Int)) y2.2.1.1 y2.2.1.2.1 y2.2.1.2.2.1 y2.2.1.2.2.2.1 y2.2.1.2.2.2.2.1 y2.2.1.2.2.2.2.2.1 y2.2.1.2.2.2.2.2.2.1 y2.2.1.2.2.2.2.2.2.2.1).bind fun y4 =>
 some ((Dop.Tok.mk (0 : Int) (@List.nil UInt8) (0 : Int) y2.1.1.at_, ()), ((y4.2.1.1, (y4.2.1.2.1, (y4.2.1.2.2.1, (y4.2.1.2.2.2.1, (y4.2.1.2.2.2.2.1, (y4.2.1.2.2.2.2.2.1, (y4.2.1.2.2.2.2.2.2.1, (y4.2.1.2.2.2.2.2.2.2.1, ())))))))), ()))
 else
 if (!decide (y2.2.1.2.2.2.2.2.2.1 = (0 : Int))) = true then
   (m48 ((5 : Int)) y2.2.1.1 y2.2.1.2.1 y2.2.1.2.2.1 y2.2.1.2.2.2.1 y2.2.1.2.2.2.2.1 y2.2.1.2.2.2.2.2.1 y2.2.1.2.2.2.2.2.2.1 y2.2.1.2.2.2.2.2.2.2.1).bind fun y5 =>
 some ((Dop.Tok.mk (0 : Int) (@List.nil UInt8) (0 : Int) y2.1.1.at_, ()), ((y5.2.1.1, (y5.2.1.2.1, (y5.2.1.2.2.1, (y5.2.1.2.2.2.1, (y5.2.1.2.2.2.2.1, (y5.2.1.2.2.2.2.2.1, (y5.2.1.2.2.2.2.2.2.1, (y5.2.1.2.2.2.2.2.2.2.1, ())))))))), ()))
 else
 if (inR (y2.2.1.2.1 + (1 : Int))) = true then
 some ((y2.1.1, ()), ((y2.2.1.1, (y2.2.1.2.1 + (1 : Int), (y2.2.1.2.2.1, (y2.2.1.2.2.2.1, (y2.2.1.2.2.2.2.1, (y2.2.1.2.2.2.2.2.1, (y2.2.1.2.2.2.2.2.2.1, (y2.2.1.2.2.2.2.2.2.2.1, ())))))))), ()))
 else none := by kernel_rfl
def Tryd.m31.p : Pln := ⟨[], 0, ⟨[.fd (.int .i64), .fd (.int .i64)], []⟩, ⟨[.st 5], []⟩, true, [], []⟩
noncomputable def Tryd.m31.E : Env En.Dop.D4 := envOf Tryd.prog 31 Tryd.tb [] Tryd.m31.p
theorem Tryd.m31.ok : plnOk En.Dop.D4 Tryd.prog 31 Tryd.m31.p = true := by kernel_rfl
noncomputable def Tryd.m31.c : Ctr En.Dop.D4 := ⟨31, Tryd.m31.p.bn, Tryd.m31.p.sp, Tryd.m31.p.rs, Tryd.m31.p.flat, .opt (Tryd.m31.E.run 3000 Tryd.m31.p.sp)⟩
theorem Tryd.m31.holds : Tryd.m31.c.Holds Tryd.prog := fun_ctr 3000 Tryd.tbOk hct_nil Tryd.m31.ok
noncomputable def Tryd.m31 (kind : Int) (at_ : Int) : Option (Spec.D En.Dop.D4 ⟨[.st 5], []⟩) := Tryd.m31.E.run 3000 Tryd.m31.p.sp ((kind, at_, ()), ())
theorem Tryd.m31_eq (kind : Int) (at_ : Int) : m31 kind at_ =
 some ((Dop.Nde.mk kind (-1 : Int) (-1 : Int) (-1 : Int) (-1 : Int) (@List.nil UInt8) (0 : Int) (0 : Int) at_, ()), ()) := by kernel_rfl
def Tryd.m64.p : Pln := ⟨[(2, ⟨[[0, 0, 0, 0, 1, 0, 1], [0, 1, 0, 0, 1, 0, 1], [2, 0, 0, 1, 0, 1], [1, 0], [0, 1, 1]], [0, 3, 7, 8], 1, ⟨[.fd (.sl 6), .al 0 0, .fd (.int .i64), .fd (.int .i64)], [⟨0, 39, [.st 6], false⟩]⟩⟩)], 0, ⟨[.fd (.sl 6), .st 6], []⟩, ⟨[.fd (.int .i64)], []⟩, true, [(4, ⟨[(0, false), (1, true), (2, true), (3, false), (4, false), (5, true)], [], [0, 0, 0, 6, 14, 31], false⟩)], []⟩
noncomputable def Tryd.m64.E : Env En.Dop.D4 := envOf Tryd.prog 64 Tryd.tb [] Tryd.m64.p
theorem Tryd.m64.ok : plnOk En.Dop.D4 Tryd.prog 64 Tryd.m64.p = true := by kernel_rfl
noncomputable def Tryd.m64.c : Ctr En.Dop.D4 := ⟨64, Tryd.m64.p.bn, Tryd.m64.p.sp, Tryd.m64.p.rs, Tryd.m64.p.flat, .opt (Tryd.m64.E.run 3000 Tryd.m64.p.sp)⟩
theorem Tryd.m64.holds : Tryd.m64.c.Holds Tryd.prog := fun_ctr 3000 Tryd.tbOk hct_nil Tryd.m64.ok
noncomputable def Tryd.m64 (s : List (Dop.Typ)) (v : Dop.Typ) : Option (Spec.D En.Dop.D4 ⟨[.fd (.int .i64)], []⟩) := Tryd.m64.E.run 3000 Tryd.m64.p.sp ((s, v, ()), ())
noncomputable def Tryd.m64_2 (s : List (Dop.Typ)) (t7 : Int) (t8 : Int) (b0 : Dop.Typ) : Option (Spec.D En.Dop.D4 ⟨[.fd (.int .i64)], []⟩) := Tryd.m64.E.cut 3000 2 ((s, (), t7, t8, ()), ((b0, ()), ()))
theorem Tryd.m64_eq (s : List (Dop.Typ)) (v : Dop.Typ) : m64 s v =
 m64_2 (s) (I s.length) ((0 : Int)) (v) := by kernel_rfl
theorem Tryd.m64_2_eq (s : List (Dop.Typ)) (t7 : Int) (t8 : Int) (b0 : Dop.Typ) : m64_2 s t7 t8 b0 =
 if (decide (t8 < t7)) = true then
 if (decide ((0 : Int) ≤ t8 ∧ t8 < I s.length)) = true then
 if (eqSs (List.take (4 : Nat) (List.drop (0 : Nat) (SV.v (Value.int IntKind.i64 b0.kind) :: SV.v (Value.int IntKind.i64 b0.elem) :: SV.v (Value.int IntKind.i64 b0.n) :: SV.v (Value.string (ByteArray.mk (Array.mk b0.name))) :: @List.nil SV ++ @List.nil SV))) (List.take (4 : Nat) (List.drop (0 : Nat) (SV.v (Value.int IntKind.i64 (@List.getD Dop.Typ s t8.toNat Dop.d6).kind) :: SV.v (Value.int IntKind.i64 (@List.getD Dop.Typ s t8.toNat Dop.d6).elem) :: SV.v (Value.int IntKind.i64 (@List.getD Dop.Typ s t8.toNat Dop.d6).n) :: SV.v (Value.string (ByteArray.mk (Array.mk (@List.getD Dop.Typ s t8.toNat Dop.d6).name))) :: @List.nil SV)))) = true then
 some ((t8, ()), ())
 else
 if (inR (t8 + (1 : Int))) = true then
  m64_2 (s) (t7) (t8 + (1 : Int)) (b0)
 else none
 else none
 else
 some (((-1 : Int), ()), ()) := Env.cut_eq' (E := Tryd.m64.E) (f0 := 3000) (c := 2) (q := ⟨[[0, 0, 0, 0, 1, 0, 1], [0, 1, 0, 0, 1, 0, 1], [2, 0, 0, 1, 0, 1], [1, 0], [0, 1, 1]], [0, 3, 7, 8], 1, ⟨[.fd (.sl 6), .al 0 0, .fd (.int .i64), .fd (.int .i64)], [⟨0, 39, [.st 6], false⟩]⟩⟩) (by kernel_rfl) ((s, (), t7, t8, ()), ((b0, ()), ())) (by kernel_rfl) (by kernel_rfl)
def Tryd.m50.p : Pln := ⟨[], 1, ⟨[.al 0 0, .st 6], [bxA]⟩, ⟨[.fd (.int .i64)], [bxB]⟩, false, [(1, ⟨[(0, true), (1, true), (2, true), (3, true), (4, false), (5, false), (6, false), (7, true)], [], [0, 1, 3, 7, 15, 0, 63, 127], true⟩), (7, ⟨[(0, true), (1, true), (2, true), (3, true), (4, true), (5, false), (6, false), (7, false)], [8, 9, 10, 11, 12], [0, 0, 2, 6, 14, 30, 0, 64, 254, 511, 1023, 2047, 4095], false⟩)], []⟩
noncomputable def Tryd.m50.E : Env En.Dop.D4 := envOf Tryd.prog 50 Tryd.tb [Tryd.m64.c, Tryd.m48.c] Tryd.m50.p
theorem Tryd.m50.ok : plnOk En.Dop.D4 Tryd.prog 50 Tryd.m50.p = true := by kernel_rfl
noncomputable def Tryd.m50.c : Ctr En.Dop.D4 := ⟨50, Tryd.m50.p.bn, Tryd.m50.p.sp, Tryd.m50.p.rs, Tryd.m50.p.flat, .opt (Tryd.m50.E.run 3000 Tryd.m50.p.sp)⟩
theorem Tryd.m50.holds : Tryd.m50.c.Holds Tryd.prog := fun_ctr 3000 Tryd.tbOk (hct_cons Tryd.m64.holds (hct_cons Tryd.m48.holds hct_nil)) Tryd.m50.ok
noncomputable def Tryd.m50 (x : Dop.Typ) (c0 : List Dop.Tok) (c1 : Int) (c2 : List Dop.Nde) (c3 : List Dop.Typ) (c4 c5 c6 c7 : Int) : Option (Spec.D En.Dop.D4 ⟨[.fd (.int .i64)], [bxB]⟩) := Tryd.m50.E.run 3000 Tryd.m50.p.sp (((), x, ()), ((c0, c1, c2, c3, c4, c5, c6, c7, ()), ()))
theorem Tryd.m50_eq (x : Dop.Typ) (c0 : List Dop.Tok) (c1 : Int) (c2 : List Dop.Nde) (c3 : List Dop.Typ) (c4 c5 c6 c7 : Int) : m50 x c0 c1 c2 c3 c4 c5 c6 c7 =
 (m64 c3 (x)).bind fun y2 =>
 if (decide ((0 : Int) ≤ y2.1.1)) = true then
 some ((y2.1.1, ()), ((c0, (c1, (c2, (c3, (c4, (c5, (c6, (c7, ())))))))), ()))
 else
 if (decide (I c3.length = (256 : Int))) = true then
   (m48 ((4 : Int)) c0 c1 c2 c3 c4 c5 c6 c7).bind fun y5 =>
 some (((0 : Int), ()), ((y5.2.1.1, (y5.2.1.2.1, (y5.2.1.2.2.1, (y5.2.1.2.2.2.1, (y5.2.1.2.2.2.2.1, (y5.2.1.2.2.2.2.2.1, (y5.2.1.2.2.2.2.2.2.1, (y5.2.1.2.2.2.2.2.2.2.1, ())))))))), ()))
 else
 if (andC none (room (40 : Nat) (c3.length + (x :: @List.nil Dop.Typ).length))) = true then
 if (inR (I (c3 ++ x :: @List.nil Dop.Typ).length - (1 : Int))) = true then
 some ((I (c3 ++ x :: @List.nil Dop.Typ).length - (1 : Int), ()), ((c0, (c1, (c2, (c3 ++ x :: @List.nil Dop.Typ, (c4, (c5, (c6, (c7, ())))))))), ()))
 else none
 else none := by kernel_rfl
def Tryd.m49.p : Pln := ⟨[(11, ⟨[[0, 0, 0, 0, 0, 0, 1, 1, 1], [0, 1, 0, 0, 0, 0, 1, 1, 1], [0, 1, 0, 0, 0, 1, 1, 1], [2, 0, 0, 0, 1, 1, 1], [1, 1], [0, 1, 1, 1, 1]], [0, 3], 1, ⟨[.al 0 0, .fd (.int .i64)], [bxB]⟩⟩)], 1, ⟨[.al 0 0], [bxA]⟩, ⟨[.fd (.int .i64)], [bxB]⟩, false, [], []⟩
noncomputable def Tryd.m49.E : Env En.Dop.D4 := envOf Tryd.prog 49 Tryd.tb [Tryd.m35.c, Tryd.m33.c, Tryd.m34.c, Tryd.m50.c] Tryd.m49.p
theorem Tryd.m49.ok : plnOk En.Dop.D4 Tryd.prog 49 Tryd.m49.p = true := by kernel_rfl
noncomputable def Tryd.m49.c : Ctr En.Dop.D4 := ⟨49, Tryd.m49.p.bn, Tryd.m49.p.sp, Tryd.m49.p.rs, Tryd.m49.p.flat, .opt (Tryd.m49.E.run 3000 Tryd.m49.p.sp)⟩
theorem Tryd.m49.holds : Tryd.m49.c.Holds Tryd.prog := fun_ctr 3000 Tryd.tbOk (hct_cons Tryd.m35.holds (hct_cons Tryd.m33.holds (hct_cons Tryd.m34.holds (hct_cons Tryd.m50.holds hct_nil)))) Tryd.m49.ok
noncomputable def Tryd.m49 (c0 : List Dop.Tok) (c1 : Int) (c2 : List Dop.Nde) (c3 : List Dop.Typ) (c4 c5 c6 c7 : Int) : Option (Spec.D En.Dop.D4 ⟨[.fd (.int .i64)], [bxB]⟩) := Tryd.m49.E.run 3000 Tryd.m49.p.sp (((), ()), ((c0, c1, c2, c3, c4, c5, c6, c7, ()), ()))
noncomputable def Tryd.m49_11 (t : Int) (c0 : List Dop.Tok) (c1 : Int) (c2 : List Dop.Nde) (c3 : List Dop.Typ) (c4 c5 c6 c7 : Int) : Option (Spec.D En.Dop.D4 ⟨[.fd (.int .i64)], [bxB]⟩) := Tryd.m49.E.cut 3000 11 (((), t, ()), ((c0, c1, c2, c3, c4, c5, c6, c7, ()), ()))
theorem Tryd.m49_eq (c0 : List Dop.Tok) (c1 : Int) (c2 : List Dop.Nde) (c3 : List Dop.Typ) (c4 c5 c6 c7 : Int) : m49 c0 c1 c2 c3 c4 c5 c6 c7 =
 (m35 ([118, 111, 105, 100] : List UInt8) c0 c1 c2 c3 c4 c5 c6 c7).bind fun y2 =>
 if y2.1.1 = true then
  m49_11 ((0 : Int)) y2.2.1.1 y2.2.1.2.1 y2.2.1.2.2.1 y2.2.1.2.2.2.1 y2.2.1.2.2.2.2.1 y2.2.1.2.2.2.2.2.1 y2.2.1.2.2.2.2.2.2.1 y2.2.1.2.2.2.2.2.2.2.1
 else
  (m35 ([105, 110, 116] : List UInt8) y2.2.1.1 y2.2.1.2.1 y2.2.1.2.2.1 y2.2.1.2.2.2.1 y2.2.1.2.2.2.2.1 y2.2.1.2.2.2.2.2.1 y2.2.1.2.2.2.2.2.2.1 y2.2.1.2.2.2.2.2.2.2.1).bind fun y4 =>
 if y4.1.1 = true then
   m49_11 ((1 : Int)) y4.2.1.1 y4.2.1.2.1 y4.2.1.2.2.1 y4.2.1.2.2.2.1 y4.2.1.2.2.2.2.1 y4.2.1.2.2.2.2.2.1 y4.2.1.2.2.2.2.2.2.1 y4.2.1.2.2.2.2.2.2.2.1
 else
   (m35 ([117, 110, 115, 105, 103, 110, 101, 100] : List UInt8) y4.2.1.1 y4.2.1.2.1 y4.2.1.2.2.1 y4.2.1.2.2.2.1 y4.2.1.2.2.2.2.1 y4.2.1.2.2.2.2.2.1 y4.2.1.2.2.2.2.2.2.1 y4.2.1.2.2.2.2.2.2.2.1).bind fun y6 =>
 if y6.1.1 = true then
    m49_11 ((2 : Int)) y6.2.1.1 y6.2.1.2.1 y6.2.1.2.2.1 y6.2.1.2.2.2.1 y6.2.1.2.2.2.2.1 y6.2.1.2.2.2.2.2.1 y6.2.1.2.2.2.2.2.2.1 y6.2.1.2.2.2.2.2.2.2.1
 else
    (m35 ([99, 104, 97, 114] : List UInt8) y6.2.1.1 y6.2.1.2.1 y6.2.1.2.2.1 y6.2.1.2.2.2.1 y6.2.1.2.2.2.2.1 y6.2.1.2.2.2.2.2.1 y6.2.1.2.2.2.2.2.2.1 y6.2.1.2.2.2.2.2.2.2.1).bind fun y8 =>
 if y8.1.1 = true then
     m49_11 ((3 : Int)) y8.2.1.1 y8.2.1.2.1 y8.2.1.2.2.1 y8.2.1.2.2.2.1 y8.2.1.2.2.2.2.1 y8.2.1.2.2.2.2.2.1 y8.2.1.2.2.2.2.2.2.1 y8.2.1.2.2.2.2.2.2.2.1
 else
     (m33 ([115, 116, 114, 117, 99, 116] : List UInt8) y8.2.1.1 y8.2.1.2.1 y8.2.1.2.2.1 y8.2.1.2.2.2.1 y8.2.1.2.2.2.2.1 y8.2.1.2.2.2.2.2.1 y8.2.1.2.2.2.2.2.2.1 y8.2.1.2.2.2.2.2.2.2.1).bind fun y10 =>
      (m34 ((1 : Int)) y10.2.1.1 y10.2.1.2.1 y10.2.1.2.2.1 y10.2.1.2.2.2.1 y10.2.1.2.2.2.2.1 y10.2.1.2.2.2.2.2.1 y10.2.1.2.2.2.2.2.2.1 y10.2.1.2.2.2.2.2.2.2.1).bind fun y11 =>
      (m50 (Dop.Typ.mk (6 : Int) (0 : Int) (0 : Int) y11.1.1.text) y11.2.1.1 y11.2.1.2.1 y11.2.1.2.2.1 y11.2.1.2.2.2.1 y11.2.1.2.2.2.2.1 y11.2.1.2.2.2.2.2.1 y11.2.1.2.2.2.2.2.2.1 y11.2.1.2.2.2.2.2.2.2.1).bind fun y12 =>
       m49_11 y12.1.1 y12.2.1.1 y12.2.1.2.1 y12.2.1.2.2.1 y12.2.1.2.2.2.1 y12.2.1.2.2.2.2.1 y12.2.1.2.2.2.2.2.1 y12.2.1.2.2.2.2.2.2.1 y12.2.1.2.2.2.2.2.2.2.1 := by kernel_rfl
theorem Tryd.m49_11_eq (t : Int) (c0 : List Dop.Tok) (c1 : Int) (c2 : List Dop.Nde) (c3 : List Dop.Typ) (c4 c5 c6 c7 : Int) : m49_11 t c0 c1 c2 c3 c4 c5 c6 c7 =
 (m35 ([42] : List UInt8) c0 c1 c2 c3 c4 c5 c6 c7).bind fun y2 =>
 if y2.1.1 = true then
  (m50 (Dop.Typ.mk (4 : Int) t (0 : Int) (@List.nil UInt8)) y2.2.1.1 y2.2.1.2.1 y2.2.1.2.2.1 y2.2.1.2.2.2.1 y2.2.1.2.2.2.2.1 y2.2.1.2.2.2.2.2.1 y2.2.1.2.2.2.2.2.2.1 y2.2.1.2.2.2.2.2.2.2.1).bind fun y4 =>
   m49_11 y4.1.1 y4.2.1.1 y4.2.1.2.1 y4.2.1.2.2.1 y4.2.1.2.2.2.1 y4.2.1.2.2.2.2.1 y4.2.1.2.2.2.2.2.1 y4.2.1.2.2.2.2.2.2.1 y4.2.1.2.2.2.2.2.2.2.1
 else
 some ((t, ()), ((y2.2.1.1, (y2.2.1.2.1, (y2.2.1.2.2.1, (y2.2.1.2.2.2.1, (y2.2.1.2.2.2.2.1, (y2.2.1.2.2.2.2.2.1, (y2.2.1.2.2.2.2.2.2.1, (y2.2.1.2.2.2.2.2.2.2.1, ())))))))), ())) := Env.cut_eq' (E := Tryd.m49.E) (f0 := 3000) (c := 11) (q := ⟨[[0, 0, 0, 0, 0, 0, 1, 1, 1], [0, 1, 0, 0, 0, 0, 1, 1, 1], [0, 1, 0, 0, 0, 1, 1, 1], [2, 0, 0, 0, 1, 1, 1], [1, 1], [0, 1, 1, 1, 1]], [0, 3], 1, ⟨[.al 0 0, .fd (.int .i64)], [bxB]⟩⟩) (by kernel_rfl) (((), t, ()), ((c0, c1, c2, c3, c4, c5, c6, c7, ()), ())) (by kernel_rfl) (by kernel_rfl)
def Tryd.m36.p : Pln := ⟨[], 1, ⟨[.al 0 0], [bxA]⟩, ⟨[.st 5], [bxB]⟩, false, [], []⟩
noncomputable def Tryd.m36.E : Env En.Dop.D4 := envOf Tryd.prog 36 Tryd.tb [Tryd.m14.c, Tryd.m31.c, Tryd.m49.c, Tryd.m34.c] Tryd.m36.p
theorem Tryd.m36.ok : plnOk En.Dop.D4 Tryd.prog 36 Tryd.m36.p = true := by kernel_rfl
noncomputable def Tryd.m36.c : Ctr En.Dop.D4 := ⟨36, Tryd.m36.p.bn, Tryd.m36.p.sp, Tryd.m36.p.rs, Tryd.m36.p.flat, .opt (Tryd.m36.E.run 3000 Tryd.m36.p.sp)⟩
theorem Tryd.m36.holds : Tryd.m36.c.Holds Tryd.prog := fun_ctr 3000 Tryd.tbOk (hct_cons Tryd.m14.holds (hct_cons Tryd.m31.holds (hct_cons Tryd.m49.holds (hct_cons Tryd.m34.holds hct_nil)))) Tryd.m36.ok
noncomputable def Tryd.m36 (c0 : List Dop.Tok) (c1 : Int) (c2 : List Dop.Nde) (c3 : List Dop.Typ) (c4 c5 c6 c7 : Int) : Option (Spec.D En.Dop.D4 ⟨[.st 5], [bxB]⟩) := Tryd.m36.E.run 3000 Tryd.m36.p.sp (((), ()), ((c0, c1, c2, c3, c4, c5, c6, c7, ()), ()))
theorem Tryd.m36_eq (c0 : List Dop.Tok) (c1 : Int) (c2 : List Dop.Nde) (c3 : List Dop.Typ) (c4 c5 c6 c7 : Int) : m36 c0 c1 c2 c3 c4 c5 c6 c7 =
 (m14 c0 c1 c2 c3 c4 c5 c6 c7).bind fun y2 =>
  (m31 ((51 : Int)) (y2.1.1.at_)).bind fun y3 =>
  (m49 y2.2.1.1 y2.2.1.2.1 y2.2.1.2.2.1 y2.2.1.2.2.2.1 y2.2.1.2.2.2.2.1 y2.2.1.2.2.2.2.2.1 y2.2.1.2.2.2.2.2.2.1 y2.2.1.2.2.2.2.2.2.2.1).bind fun y4 =>
   (m34 ((1 : Int)) y4.2.1.1 y4.2.1.2.1 y4.2.1.2.2.1 y4.2.1.2.2.2.1 y4.2.1.2.2.2.2.1 y4.2.1.2.2.2.2.2.1 y4.2.1.2.2.2.2.2.2.1 y4.2.1.2.2.2.2.2.2.2.1).bind fun y5 =>
 some ((Dop.Nde.mk y3.1.1.kind y3.1.1.a y3.1.1.b y3.1.1.c y3.1.1.d y5.1.1.text y3.1.1.n y4.1.1 y3.1.1.at_, ()), ((y5.2.1.1, (y5.2.1.2.1, (y5.2.1.2.2.1, (y5.2.1.2.2.2.1, (y5.2.1.2.2.2.2.1, (y5.2.1.2.2.2.2.2.1, (y5.2.1.2.2.2.2.2.2.1, (y5.2.1.2.2.2.2.2.2.2.1, ())))))))), ())) := by kernel_rfl
def Tryd.m37.p : Pln := ⟨[], 1, ⟨[.al 0 0, .fd (.int .i64)], [bxA]⟩, ⟨[.fd (.int .i64)], [bxB]⟩, false, [], []⟩
noncomputable def Tryd.m37.E : Env En.Dop.D4 := envOf Tryd.prog 37 Tryd.tb [Tryd.m35.c, Tryd.m34.c, Tryd.m33.c, Tryd.m50.c] Tryd.m37.p
theorem Tryd.m37.ok : plnOk En.Dop.D4 Tryd.prog 37 Tryd.m37.p = true := by kernel_rfl
noncomputable def Tryd.m37.c : Ctr En.Dop.D4 := ⟨37, Tryd.m37.p.bn, Tryd.m37.p.sp, Tryd.m37.p.rs, Tryd.m37.p.flat, .opt (Tryd.m37.E.run 3000 Tryd.m37.p.sp)⟩
theorem Tryd.m37.holds : Tryd.m37.c.Holds Tryd.prog := fun_ctr 3000 Tryd.tbOk (hct_cons Tryd.m35.holds (hct_cons Tryd.m34.holds (hct_cons Tryd.m33.holds (hct_cons Tryd.m50.holds hct_nil)))) Tryd.m37.ok
noncomputable def Tryd.m37 (t : Int) (c0 : List Dop.Tok) (c1 : Int) (c2 : List Dop.Nde) (c3 : List Dop.Typ) (c4 c5 c6 c7 : Int) : Option (Spec.D En.Dop.D4 ⟨[.fd (.int .i64)], [bxB]⟩) := Tryd.m37.E.run 3000 Tryd.m37.p.sp (((), t, ()), ((c0, c1, c2, c3, c4, c5, c6, c7, ()), ()))
theorem Tryd.m37_eq (t : Int) (c0 : List Dop.Tok) (c1 : Int) (c2 : List Dop.Nde) (c3 : List Dop.Typ) (c4 c5 c6 c7 : Int) : m37 t c0 c1 c2 c3 c4 c5 c6 c7 =
 (m35 ([91] : List UInt8) c0 c1 c2 c3 c4 c5 c6 c7).bind fun y2 =>
 if (!y2.1.1) = true then
 some ((t, ()), ((y2.2.1.1, (y2.2.1.2.1, (y2.2.1.2.2.1, (y2.2.1.2.2.2.1, (y2.2.1.2.2.2.2.1, (y2.2.1.2.2.2.2.2.1, (y2.2.1.2.2.2.2.2.2.1, (y2.2.1.2.2.2.2.2.2.2.1, ())))))))), ()))
 else
  (m34 ((3 : Int)) y2.2.1.1 y2.2.1.2.1 y2.2.1.2.2.1 y2.2.1.2.2.2.1 y2.2.1.2.2.2.2.1 y2.2.1.2.2.2.2.2.1 y2.2.1.2.2.2.2.2.2.1 y2.2.1.2.2.2.2.2.2.2.1).bind fun y4 =>
   (m33 ([93] : List UInt8) y4.2.1.1 y4.2.1.2.1 y4.2.1.2.2.1 y4.2.1.2.2.2.1 y4.2.1.2.2.2.2.1 y4.2.1.2.2.2.2.2.1 y4.2.1.2.2.2.2.2.2.1 y4.2.1.2.2.2.2.2.2.2.1).bind fun y5 =>
   (m50 (Dop.Typ.mk (5 : Int) t y4.1.1.n (@List.nil UInt8)) y5.2.1.1 y5.2.1.2.1 y5.2.1.2.2.1 y5.2.1.2.2.2.1 y5.2.1.2.2.2.2.1 y5.2.1.2.2.2.2.2.1 y5.2.1.2.2.2.2.2.2.1 y5.2.1.2.2.2.2.2.2.2.1).bind fun y6 =>
 some ((y6.1.1, ()), ((y6.2.1.1, (y6.2.1.2.1, (y6.2.1.2.2.1, (y6.2.1.2.2.2.1, (y6.2.1.2.2.2.2.1, (y6.2.1.2.2.2.2.2.1, (y6.2.1.2.2.2.2.2.2.1, (y6.2.1.2.2.2.2.2.2.2.1, ())))))))), ())) := by kernel_rfl
def Tryd.m38.p : Pln := ⟨[], 1, ⟨[.al 0 0, .st 5], [bxA]⟩, ⟨[.fd (.int .i64)], [bxB]⟩, false, [(5, ⟨[(0, true), (1, true), (2, true), (3, true), (4, true), (5, false), (6, false), (7, false)], [8, 9, 10, 11, 12], [0, 0, 2, 6, 14, 30, 0, 64, 254, 511, 1023, 2047, 4095], false⟩)], []⟩
noncomputable def Tryd.m38.E : Env En.Dop.D4 := envOf Tryd.prog 38 Tryd.tb [Tryd.m48.c] Tryd.m38.p
theorem Tryd.m38.ok : plnOk En.Dop.D4 Tryd.prog 38 Tryd.m38.p = true := by kernel_rfl
noncomputable def Tryd.m38.c : Ctr En.Dop.D4 := ⟨38, Tryd.m38.p.bn, Tryd.m38.p.sp, Tryd.m38.p.rs, Tryd.m38.p.flat, .opt (Tryd.m38.E.run 3000 Tryd.m38.p.sp)⟩
theorem Tryd.m38.holds : Tryd.m38.c.Holds Tryd.prog := fun_ctr 3000 Tryd.tbOk (hct_cons Tryd.m48.holds hct_nil) Tryd.m38.ok
noncomputable def Tryd.m38 (n : Dop.Nde) (c0 : List Dop.Tok) (c1 : Int) (c2 : List Dop.Nde) (c3 : List Dop.Typ) (c4 c5 c6 c7 : Int) : Option (Spec.D En.Dop.D4 ⟨[.fd (.int .i64)], [bxB]⟩) := Tryd.m38.E.run 3000 Tryd.m38.p.sp (((), n, ()), ((c0, c1, c2, c3, c4, c5, c6, c7, ()), ()))
theorem Tryd.m38_eq (n : Dop.Nde) (c0 : List Dop.Tok) (c1 : Int) (c2 : List Dop.Nde) (c3 : List Dop.Typ) (c4 c5 c6 c7 : Int) : m38 n c0 c1 c2 c3 c4 c5 c6 c7 =
 if (decide (I c2.length = (8192 : Int))) = true then
  (m48 ((4 : Int)) c0 c1 c2 c3 c4 c5 c6 c7).bind fun y3 =>
 if (!decide (y3.2.1.2.2.2.2.2.2.1 = (0 : Int))) = true then
 some (((-1 : Int), ()), ((y3.2.1.1, (y3.2.1.2.1, (y3.2.1.2.2.1, (y3.2.1.2.2.2.1, (y3.2.1.2.2.2.2.1, (y3.2.1.2.2.2.2.2.1, (y3.2.1.2.2.2.2.2.2.1, (y3.2.1.2.2.2.2.2.2.2.1, ())))))))), ()))
 else
 if (andC none (room (80 : Nat) (y3.2.1.2.2.1.length + (n :: @List.nil Dop.Nde).length))) = true then
 if (inR (I (y3.2.1.2.2.1 ++ n :: @List.nil Dop.Nde).length - (1 : Int))) = true then
 some ((I (y3.2.1.2.2.1 ++ n :: @List.nil Dop.Nde).length - (1 : Int), ()), ((y3.2.1.1, (y3.2.1.2.1, (y3.2.1.2.2.1 ++ n :: @List.nil Dop.Nde, (y3.2.1.2.2.2.1, (y3.2.1.2.2.2.2.1, (y3.2.1.2.2.2.2.2.1, (y3.2.1.2.2.2.2.2.2.1, (y3.2.1.2.2.2.2.2.2.2.1, ())))))))), ()))
 else none
 else none
 else
 if (!decide (c6 = (0 : Int))) = true then
 some (((-1 : Int), ()), ((c0, (c1, (c2, (c3, (c4, (c5, (c6, (c7, ())))))))), ()))
 else
 if (andC none (room (80 : Nat) (c2.length + (n :: @List.nil Dop.Nde).length))) = true then
 if (inR (I (c2 ++ n :: @List.nil Dop.Nde).length - (1 : Int))) = true then
 some ((I (c2 ++ n :: @List.nil Dop.Nde).length - (1 : Int), ()), ((c0, (c1, (c2 ++ n :: @List.nil Dop.Nde, (c3, (c4, (c5, (c6, (c7, ())))))))), ()))
 else none
 else none := by kernel_rfl
def Tryd.m41.p : Pln := ⟨[], 1, ⟨[.al 0 0, .fd (.int .i64)], [bxA]⟩, ⟨[.fd (.int .i64)], [bxB]⟩, false, [], []⟩
noncomputable def Tryd.m41.E : Env En.Dop.D4 := envOf Tryd.prog 41 Tryd.tb [] Tryd.m41.p
theorem Tryd.m41.ok : plnOk En.Dop.D4 Tryd.prog 41 Tryd.m41.p = true := by kernel_rfl
noncomputable def Tryd.m41.c : Ctr En.Dop.D4 := ⟨41, Tryd.m41.p.bn, Tryd.m41.p.sp, Tryd.m41.p.rs, Tryd.m41.p.flat, .opt (Tryd.m41.E.run 3000 Tryd.m41.p.sp)⟩
theorem Tryd.m41.holds : Tryd.m41.c.Holds Tryd.prog := fun_ctr 3000 Tryd.tbOk hct_nil Tryd.m41.ok
noncomputable def Tryd.m41 (n : Int) (c0 : List Dop.Tok) (c1 : Int) (c2 : List Dop.Nde) (c3 : List Dop.Typ) (c4 c5 c6 c7 : Int) : Option (Spec.D En.Dop.D4 ⟨[.fd (.int .i64)], [bxB]⟩) := Tryd.m41.E.run 3000 Tryd.m41.p.sp (((), n, ()), ((c0, c1, c2, c3, c4, c5, c6, c7, ()), ()))
theorem Tryd.m41_eq (n : Int) (c0 : List Dop.Tok) (c1 : Int) (c2 : List Dop.Nde) (c3 : List Dop.Typ) (c4 c5 c6 c7 : Int) : m41 n c0 c1 c2 c3 c4 c5 c6 c7 =
 if (decide (n < (0 : Int))) = true then
 some (((0 : Int), ()), ((c0, (c1, (c2, (c3, (c4, (c5, (c6, (c7, ())))))))), ()))
 else
 if (decide ((0 : Int) ≤ n ∧ n < I c2.length)) = true then
 if (decide (n.toNat < c2.length)) = true then
 some (((@List.getD Dop.Nde c2 n.toNat Dop.d5).at_, ()), ((c0, (c1, (c2, (c3, (c4, (c5, (c6, (c7, ())))))))), ()))
 else none
 else none := by kernel_rfl
def Tryd.m78.p : Pln := ⟨[], 1, ⟨[.al 0 0], [bxA]⟩, ⟨[.fd .bool], [bxB]⟩, false, [], []⟩
noncomputable def Tryd.m78.E : Env En.Dop.D4 := envOf Tryd.prog 78 Tryd.tb [Tryd.m32.c] Tryd.m78.p
theorem Tryd.m78.ok : plnOk En.Dop.D4 Tryd.prog 78 Tryd.m78.p = true := by kernel_rfl
noncomputable def Tryd.m78.c : Ctr En.Dop.D4 := ⟨78, Tryd.m78.p.bn, Tryd.m78.p.sp, Tryd.m78.p.rs, Tryd.m78.p.flat, .opt (Tryd.m78.E.run 3000 Tryd.m78.p.sp)⟩
theorem Tryd.m78.holds : Tryd.m78.c.Holds Tryd.prog := fun_ctr 3000 Tryd.tbOk (hct_cons Tryd.m32.holds hct_nil) Tryd.m78.ok
noncomputable def Tryd.m78 (c0 : List Dop.Tok) (c1 : Int) (c2 : List Dop.Nde) (c3 : List Dop.Typ) (c4 c5 c6 c7 : Int) : Option (Spec.D En.Dop.D4 ⟨[.fd .bool], [bxB]⟩) := Tryd.m78.E.run 3000 Tryd.m78.p.sp (((), ()), ((c0, c1, c2, c3, c4, c5, c6, c7, ()), ()))
theorem Tryd.m78_eq (c0 : List Dop.Tok) (c1 : Int) (c2 : List Dop.Nde) (c3 : List Dop.Typ) (c4 c5 c6 c7 : Int) : m78 c0 c1 c2 c3 c4 c5 c6 c7 =
 (m32 ([105, 110, 116] : List UInt8) c0 c1 c2 c3 c4 c5 c6 c7).bind fun y2 =>
 if y2.1.1 = true then
 some ((true, ()), ((y2.2.1.1, (y2.2.1.2.1, (y2.2.1.2.2.1, (y2.2.1.2.2.2.1, (y2.2.1.2.2.2.2.1, (y2.2.1.2.2.2.2.2.1, (y2.2.1.2.2.2.2.2.2.1, (y2.2.1.2.2.2.2.2.2.2.1, ())))))))), ()))
 else
  (m32 ([117, 110, 115, 105, 103, 110, 101, 100] : List UInt8) y2.2.1.1 y2.2.1.2.1 y2.2.1.2.2.1 y2.2.1.2.2.2.1 y2.2.1.2.2.2.2.1 y2.2.1.2.2.2.2.2.1 y2.2.1.2.2.2.2.2.2.1 y2.2.1.2.2.2.2.2.2.2.1).bind fun y4 =>
 if y4.1.1 = true then
 some ((true, ()), ((y4.2.1.1, (y4.2.1.2.1, (y4.2.1.2.2.1, (y4.2.1.2.2.2.1, (y4.2.1.2.2.2.2.1, (y4.2.1.2.2.2.2.2.1, (y4.2.1.2.2.2.2.2.2.1, (y4.2.1.2.2.2.2.2.2.2.1, ())))))))), ()))
 else
   (m32 ([99, 104, 97, 114] : List UInt8) y4.2.1.1 y4.2.1.2.1 y4.2.1.2.2.1 y4.2.1.2.2.2.1 y4.2.1.2.2.2.2.1 y4.2.1.2.2.2.2.2.1 y4.2.1.2.2.2.2.2.2.1 y4.2.1.2.2.2.2.2.2.2.1).bind fun y6 =>
 if y6.1.1 = true then
 some ((true, ()), ((y6.2.1.1, (y6.2.1.2.1, (y6.2.1.2.2.1, (y6.2.1.2.2.2.1, (y6.2.1.2.2.2.2.1, (y6.2.1.2.2.2.2.2.1, (y6.2.1.2.2.2.2.2.2.1, (y6.2.1.2.2.2.2.2.2.2.1, ())))))))), ()))
 else
    (m32 ([118, 111, 105, 100] : List UInt8) y6.2.1.1 y6.2.1.2.1 y6.2.1.2.2.1 y6.2.1.2.2.2.1 y6.2.1.2.2.2.2.1 y6.2.1.2.2.2.2.2.1 y6.2.1.2.2.2.2.2.2.1 y6.2.1.2.2.2.2.2.2.2.1).bind fun y8 =>
 if y8.1.1 = true then
 some ((true, ()), ((y8.2.1.1, (y8.2.1.2.1, (y8.2.1.2.2.1, (y8.2.1.2.2.2.1, (y8.2.1.2.2.2.2.1, (y8.2.1.2.2.2.2.2.1, (y8.2.1.2.2.2.2.2.2.1, (y8.2.1.2.2.2.2.2.2.2.1, ())))))))), ()))
 else
     (m32 ([115, 116, 114, 117, 99, 116] : List UInt8) y8.2.1.1 y8.2.1.2.1 y8.2.1.2.2.1 y8.2.1.2.2.2.1 y8.2.1.2.2.2.2.1 y8.2.1.2.2.2.2.2.1 y8.2.1.2.2.2.2.2.2.1 y8.2.1.2.2.2.2.2.2.2.1).bind fun y10 =>
 some ((y10.1.1, ()), ((y10.2.1.1, (y10.2.1.2.1, (y10.2.1.2.2.1, (y10.2.1.2.2.2.1, (y10.2.1.2.2.2.2.1, (y10.2.1.2.2.2.2.2.1, (y10.2.1.2.2.2.2.2.2.1, (y10.2.1.2.2.2.2.2.2.2.1, ())))))))), ())) := by kernel_rfl
def Tryd.m10.p : Pln := ⟨[(4, ⟨[[0, 0, 0, 0, 1, 0, 1, 1], [0, 1, 0, 0, 1, 0, 1, 1], [2, 0, 0, 1, 0, 1, 1], [1, 0], [0, 1, 1, 1]], [2, 3, 33, 34, 35], 2, ⟨[.al 0 0, .al 1 0, .fd (.sl 5), .fd (.int .i64), .fd (.int .i64)], [⟨0, 30, [.st 7], false⟩, ⟨1, 30, [.st 7], false⟩]⟩⟩), (12, ⟨[[0, 0, 0, 0, 1, 0, 1, 1, 1], [0, 1, 0, 0, 1, 0, 1, 1, 1], [2, 0, 0, 1, 0, 1, 1, 1], [1, 2], [0, 1, 1, 1, 1]], [2, 3, 53, 54], 2, ⟨[.al 0 0, .al 1 0, .fd (.int .i64), .fd (.int .i64)], [⟨0, 30, [.st 7], false⟩, ⟨1, 30, [.st 7], false⟩]⟩⟩)], 0, ⟨[.st 7, .st 7], []⟩, ⟨[.fd .bool], []⟩, true, [(14, ⟨[(0, true), (1, false), (2, true), (3, false), (4, false), (5, true), (6, false), (7, true), (8, false), (9, false), (10, true)], [], [0, 1, 0, 7, 15, 0, 32, 0, 224, 480, 1023], false⟩)], []⟩
noncomputable def Tryd.m10.E : Env En.Dop.D4 := envOf Tryd.prog 10 Tryd.tb [] Tryd.m10.p
theorem Tryd.m10.ok : plnOk En.Dop.D4 Tryd.prog 10 Tryd.m10.p = true := by kernel_rfl
noncomputable def Tryd.m10.c : Ctr En.Dop.D4 := ⟨10, Tryd.m10.p.bn, Tryd.m10.p.sp, Tryd.m10.p.rs, Tryd.m10.p.flat, .opt (Tryd.m10.E.run 3000 Tryd.m10.p.sp)⟩
theorem Tryd.m10.holds : Tryd.m10.c.Holds Tryd.prog := fun_ctr 3000 Tryd.tbOk hct_nil Tryd.m10.ok
noncomputable def Tryd.m10 (o : Dop.Tre) (t1 : Dop.Tre) : Option (Spec.D En.Dop.D4 ⟨[.fd .bool], []⟩) := Tryd.m10.E.run 3000 Tryd.m10.p.sp ((o, t1, ()), ())
noncomputable def Tryd.m10_4 (t33 : List (Dop.Nde)) (t34 : Int) (t35 : Int) (b0 : Dop.Tre) (b1 : Dop.Tre) : Option (Spec.D En.Dop.D4 ⟨[.fd .bool], []⟩) := Tryd.m10.E.cut 3000 4 (((), (), t33, t34, t35, ()), ((b0, ()), (b1, ()), ()))
noncomputable def Tryd.m10_12 (t53 : Int) (t54 : Int) (b0 : Dop.Tre) (b1 : Dop.Tre) : Option (Spec.D En.Dop.D4 ⟨[.fd .bool], []⟩) := Tryd.m10.E.cut 3000 12 (((), (), t53, t54, ()), ((b0, ()), (b1, ()), ()))
theorem Tryd.m10_eq (o : Dop.Tre) (t1 : Dop.Tre) : m10 o t1 =
 if (!decide (I o.nodes.length = I t1.nodes.length)) = true then
 some ((false, ()), ())
 else
 if (!decide (I o.types.length = I t1.types.length)) = true then
 some ((false, ()), ())
 else
 if (!decide (o.top = t1.top)) = true then
 some ((false, ()), ())
 else
   m10_4 (o.nodes) (I o.nodes.length) ((0 : Int)) (o) (t1) := by kernel_rfl
theorem Tryd.m10_4_eq (t33 : List (Dop.Nde)) (t34 : Int) (t35 : Int) (b0 : Dop.Tre) (b1 : Dop.Tre) : m10_4 t33 t34 t35 b0 b1 =
 if (decide (t35 < t34)) = true then
 if (decide ((0 : Int) ≤ t35 ∧ t35 < I t33.length)) = true then
 if (decide ((0 : Int) ≤ t35 ∧ t35 < I b1.nodes.length)) = true then
 if (!eqSs (List.take (9 : Nat) (List.drop (0 : Nat) (spl (spl (SV.v (Value.int IntKind.i64 (0 : Int)) :: SV.v (Value.int IntKind.i64 (0 : Int)) :: SV.v (Value.int IntKind.i64 (0 : Int)) :: SV.v (Value.int IntKind.i64 (0 : Int)) :: SV.v (Value.int IntKind.i64 (0 : Int)) :: SV.v (Value.string (ByteArray.mk (@List.nil UInt8).toArray)) :: SV.v (Value.int IntKind.i64 (0 : Int)) :: SV.v (Value.int IntKind.i64 (0 : Int)) :: SV.v (Value.int IntKind.i64 (0 : Int)) :: @List.nil SV) (0 : Nat) (List.take (9 : Nat) (List.drop (0 : Nat) (SV.v (Value.int IntKind.i64 (@List.getD Dop.Nde t33 t35.toNat Dop.d5).kind) :: SV.v (Value.int IntKind.i64 (@List.getD Dop.Nde t33 t35.toNat Dop.d5).a) :: SV.v (Value.int IntKind.i64 (@List.getD Dop.Nde t33 t35.toNat Dop.d5).b) :: SV.v (Value.int IntKind.i64 (@List.getD Dop.Nde t33 t35.toNat Dop.d5).c) :: SV.v (Value.int IntKind.i64 (@List.getD Dop.Nde t33 t35.toNat Dop.d5).d) :: SV.v (Value.string (ByteArray.mk (Array.mk (@List.getD Dop.Nde t33 t35.toNat Dop.d5).text))) :: SV.v (Value.int IntKind.i64 (@List.getD Dop.Nde t33 t35.toNat Dop.d5).n) :: SV.v (Value.int IntKind.i64 (@List.getD Dop.Nde t33 t35.toNat Dop.d5).type_) :: SV.v (Value.int IntKind.i64 (@List.getD Dop.Nde t33 t35.toNat Dop.d5).at_) :: @List.nil SV)))) ((0 : Nat) + (8 : Nat)) (SV.v (Value.int IntKind.i64 (0 : Int)) :: @List.nil SV)))) (List.take (9 : Nat) (List.drop (0 : Nat) (spl (spl (SV.v (Value.int IntKind.i64 (0 : Int)) :: SV.v (Value.int IntKind.i64 (0 : Int)) :: SV.v (Value.int IntKind.i64 (0 : Int)) :: SV.v (Value.int IntKind.i64 (0 : Int)) :: SV.v (Value.int IntKind.i64 (0 : Int)) :: SV.v (Value.string (ByteArray.mk (@List.nil UInt8).toArray)) :: SV.v (Value.int IntKind.i64 (0 : Int)) :: SV.v (Value.int IntKind.i64 (0 : Int)) :: SV.v (Value.int IntKind.i64 (0 : Int)) :: @List.nil SV) (0 : Nat) (List.take (9 : Nat) (List.drop (0 : Nat) (SV.v (Value.int IntKind.i64 (@List.getD Dop.Nde b1.nodes t35.toNat Dop.d5).kind) :: SV.v (Value.int IntKind.i64 (@List.getD Dop.Nde b1.nodes t35.toNat Dop.d5).a) :: SV.v (Value.int IntKind.i64 (@List.getD Dop.Nde b1.nodes t35.toNat Dop.d5).b) :: SV.v (Value.int IntKind.i64 (@List.getD Dop.Nde b1.nodes t35.toNat Dop.d5).c) :: SV.v (Value.int IntKind.i64 (@List.getD Dop.Nde b1.nodes t35.toNat Dop.d5).d) :: SV.v (Value.string (ByteArray.mk (Array.mk (@List.getD Dop.Nde b1.nodes t35.toNat Dop.d5).text))) :: SV.v (Value.int IntKind.i64 (@List.getD Dop.Nde b1.nodes t35.toNat Dop.d5).n) :: SV.v (Value.int IntKind.i64 (@List.getD Dop.Nde b1.nodes t35.toNat Dop.d5).type_) :: SV.v (Value.int IntKind.i64 (@List.getD Dop.Nde b1.nodes t35.toNat Dop.d5).at_) :: @List.nil SV)))) ((0 : Nat) + (8 : Nat)) (SV.v (Value.int IntKind.i64 (0 : Int)) :: @List.nil SV))))) = true then
 some ((false, ()), ())
 else
 if (inR (t35 + (1 : Int))) = true then
  m10_4 (t33) (t34) (t35 + (1 : Int)) (b0) (b1)
 else none
 else none
 else none
 else
  m10_12 (I b0.types.length) ((0 : Int)) (b0) (b1) := Env.cut_eq' (E := Tryd.m10.E) (f0 := 3000) (c := 4) (q := ⟨[[0, 0, 0, 0, 1, 0, 1, 1], [0, 1, 0, 0, 1, 0, 1, 1], [2, 0, 0, 1, 0, 1, 1], [1, 0], [0, 1, 1, 1]], [2, 3, 33, 34, 35], 2, ⟨[.al 0 0, .al 1 0, .fd (.sl 5), .fd (.int .i64), .fd (.int .i64)], [⟨0, 30, [.st 7], false⟩, ⟨1, 30, [.st 7], false⟩]⟩⟩) (by kernel_rfl) (((), (), t33, t34, t35, ()), ((b0, ()), (b1, ()), ())) (by kernel_rfl) (by kernel_rfl)
theorem Tryd.m10_12_eq (t53 : Int) (t54 : Int) (b0 : Dop.Tre) (b1 : Dop.Tre) : m10_12 t53 t54 b0 b1 =
 if (decide (t54 < t53)) = true then
 if (decide ((0 : Int) ≤ t54 ∧ t54 < I b0.types.length)) = true then
 if (decide ((0 : Int) ≤ t54 ∧ t54 < I b1.types.length)) = true then
 if (!eqSs (List.take (4 : Nat) (List.drop (0 : Nat) (SV.v (Value.int IntKind.i64 (@List.getD Dop.Typ b0.types t54.toNat Dop.d6).kind) :: SV.v (Value.int IntKind.i64 (@List.getD Dop.Typ b0.types t54.toNat Dop.d6).elem) :: SV.v (Value.int IntKind.i64 (@List.getD Dop.Typ b0.types t54.toNat Dop.d6).n) :: SV.v (Value.string (ByteArray.mk (Array.mk (@List.getD Dop.Typ b0.types t54.toNat Dop.d6).name))) :: @List.nil SV))) (List.take (4 : Nat) (List.drop (0 : Nat) (SV.v (Value.int IntKind.i64 (@List.getD Dop.Typ b1.types t54.toNat Dop.d6).kind) :: SV.v (Value.int IntKind.i64 (@List.getD Dop.Typ b1.types t54.toNat Dop.d6).elem) :: SV.v (Value.int IntKind.i64 (@List.getD Dop.Typ b1.types t54.toNat Dop.d6).n) :: SV.v (Value.string (ByteArray.mk (Array.mk (@List.getD Dop.Typ b1.types t54.toNat Dop.d6).name))) :: @List.nil SV)))) = true then
 some ((false, ()), ())
 else
 if (inR (t54 + (1 : Int))) = true then
  m10_12 (t53) (t54 + (1 : Int)) (b0) (b1)
 else none
 else none
 else none
 else
 some ((true, ()), ()) := Env.cut_eq' (E := Tryd.m10.E) (f0 := 3000) (c := 12) (q := ⟨[[0, 0, 0, 0, 1, 0, 1, 1, 1], [0, 1, 0, 0, 1, 0, 1, 1, 1], [2, 0, 0, 1, 0, 1, 1, 1], [1, 2], [0, 1, 1, 1, 1]], [2, 3, 53, 54], 2, ⟨[.al 0 0, .al 1 0, .fd (.int .i64), .fd (.int .i64)], [⟨0, 30, [.st 7], false⟩, ⟨1, 30, [.st 7], false⟩]⟩⟩) (by kernel_rfl) (((), (), t53, t54, ()), ((b0, ()), (b1, ()), ())) (by kernel_rfl) (by kernel_rfl)
def Tryd.m18.p : Pln := ⟨[], 1, ⟨[.fd (.int .i64), .al 0 0], [⟨0, 30, [.st 7], false⟩]⟩, ⟨[.st 5], [⟨0, 30, [.st 7], false⟩]⟩, false, [], []⟩
noncomputable def Tryd.m18.E : Env En.Dop.D4 := envOf Tryd.prog 18 Tryd.tb [] Tryd.m18.p
theorem Tryd.m18.ok : plnOk En.Dop.D4 Tryd.prog 18 Tryd.m18.p = true := by kernel_rfl
noncomputable def Tryd.m18.c : Ctr En.Dop.D4 := ⟨18, Tryd.m18.p.bn, Tryd.m18.p.sp, Tryd.m18.p.rs, Tryd.m18.p.flat, .opt (Tryd.m18.E.run 3000 Tryd.m18.p.sp)⟩
theorem Tryd.m18.holds : Tryd.m18.c.Holds Tryd.prog := fun_ctr 3000 Tryd.tbOk hct_nil Tryd.m18.ok
noncomputable def Tryd.m18 (n : Int) (b0 : Dop.Tre) : Option (Spec.D En.Dop.D4 ⟨[.st 5], [⟨0, 30, [.st 7], false⟩]⟩) := Tryd.m18.E.run 3000 Tryd.m18.p.sp ((n, (), ()), ((b0, ()), ()))
theorem Tryd.m18_eq (n : Int) (b0 : Dop.Tre) : m18 n b0 =
 if (decide (n < (0 : Int))) = true then
 some ((Dop.Nde.mk (0 : Int) (0 : Int) (0 : Int) (0 : Int) (0 : Int) (@List.nil UInt8) (0 : Int) (0 : Int) (0 : Int), ()), ((b0, ()), ()))
 else
 if (decide (I b0.nodes.length ≤ n)) = true then
 some ((Dop.Nde.mk (0 : Int) (0 : Int) (0 : Int) (0 : Int) (0 : Int) (@List.nil UInt8) (0 : Int) (0 : Int) (0 : Int), ()), ((b0, ()), ()))
 else
 if (decide ((0 : Int) ≤ n ∧ n < I b0.nodes.length)) = true then
 some ((@List.getD Dop.Nde b0.nodes n.toNat Dop.d5, ()), ((b0, ()), ()))
 else none := by kernel_rfl
def Tryd.m11.p : Pln := ⟨[(3, ⟨[[0, 0, 0, 0, 1, 0, 1, 1], [0, 1, 0, 0, 1, 0, 1, 1], [2, 0, 0, 1, 0, 1, 1], [1, 0], [0, 1, 1, 1]], [3, 10, 11, 12], 1, ⟨[.fn 18 [(0, 0)], .fd (.sl 5), .fd (.int .i64), .fd (.int .i64)], [⟨0, 30, [.st 7], false⟩]⟩⟩)], 0, ⟨[.st 7], []⟩, ⟨[.fd .bool], []⟩, true, [], []⟩
noncomputable def Tryd.m11.E : Env En.Dop.D4 := envOf Tryd.prog 11 Tryd.tb [Tryd.m18.c] Tryd.m11.p
theorem Tryd.m11.ok : plnOk En.Dop.D4 Tryd.prog 11 Tryd.m11.p = true := by kernel_rfl
noncomputable def Tryd.m11.c : Ctr En.Dop.D4 := ⟨11, Tryd.m11.p.bn, Tryd.m11.p.sp, Tryd.m11.p.rs, Tryd.m11.p.flat, .opt (Tryd.m11.E.run 3000 Tryd.m11.p.sp)⟩
theorem Tryd.m11.holds : Tryd.m11.c.Holds Tryd.prog := fun_ctr 3000 Tryd.tbOk (hct_cons Tryd.m18.holds hct_nil) Tryd.m11.ok
noncomputable def Tryd.m11 (o : Dop.Tre) : Option (Spec.D En.Dop.D4 ⟨[.fd .bool], []⟩) := Tryd.m11.E.run 3000 Tryd.m11.p.sp ((o, ()), ())
noncomputable def Tryd.m11_3 (t10 : List (Dop.Nde)) (t11 : Int) (t12 : Int) (b0 : Dop.Tre) : Option (Spec.D En.Dop.D4 ⟨[.fd .bool], []⟩) := Tryd.m11.E.cut 3000 3 (((), t10, t11, t12, ()), ((b0, ()), ()))
theorem Tryd.m11_eq (o : Dop.Tre) : m11 o =
 m11_3 (o.nodes) (I o.nodes.length) ((0 : Int)) (o) := by kernel_rfl
theorem Tryd.m11_3_eq (t10 : List (Dop.Nde)) (t11 : Int) (t12 : Int) (b0 : Dop.Tre) : m11_3 t10 t11 t12 b0 =
 if (decide (t12 < t11)) = true then
 if (decide ((0 : Int) ≤ t12 ∧ t12 < I t10.length)) = true then
  (m18 ((@List.getD Dop.Nde t10 t12.toNat Dop.d5).a) (b0)).bind fun y3 =>
  (m18 (y3.1.1.b) y3.2.1.1).bind fun y4 =>
 if (decide ((@List.getD Dop.Nde t10 t12.toNat Dop.d5).kind = (37 : Int))) = true then
 if (decide (y3.1.1.kind = (4 : Int))) = true then
 if (decide (y3.1.1.text = (43 : UInt8) :: @List.nil UInt8)) = true then
    (m18 (y3.1.1.a) y4.2.1.1).bind fun y8 =>
 if (decide (y8.1.1.n = (1 : Int))) = true then
 if (decide (y4.1.1.kind = (4 : Int))) = true then
 if (decide (y4.1.1.text = (42 : UInt8) :: @List.nil UInt8)) = true then
      (m18 (y4.1.1.a) y8.2.1.1).bind fun y12 =>
 if (decide (y12.1.1.n = (2 : Int))) = true then
       (m18 (y4.1.1.b) y12.2.1.1).bind fun y14 =>
 if (decide (y14.1.1.n = (3 : Int))) = true then
 some ((true, ()), ())
 else
 if (inR (t12 + (1 : Int))) = true then
        m11_3 (t10) (t11) (t12 + (1 : Int)) y14.2.1.1
 else none
 else
 if (inR (t12 + (1 : Int))) = true then
       m11_3 (t10) (t11) (t12 + (1 : Int)) y12.2.1.1
 else none
 else
 if (inR (t12 + (1 : Int))) = true then
      m11_3 (t10) (t11) (t12 + (1 : Int)) y8.2.1.1
 else none
 else
 if (inR (t12 + (1 : Int))) = true then
      m11_3 (t10) (t11) (t12 + (1 : Int)) y8.2.1.1
 else none
 else
 if (inR (t12 + (1 : Int))) = true then
     m11_3 (t10) (t11) (t12 + (1 : Int)) y8.2.1.1
 else none
 else
 if (inR (t12 + (1 : Int))) = true then
    m11_3 (t10) (t11) (t12 + (1 : Int)) y4.2.1.1
 else none
 else
 if (inR (t12 + (1 : Int))) = true then
    m11_3 (t10) (t11) (t12 + (1 : Int)) y4.2.1.1
 else none
 else
 if (inR (t12 + (1 : Int))) = true then
   m11_3 (t10) (t11) (t12 + (1 : Int)) y4.2.1.1
 else none
 else none
 else
 some ((false, ()), ()) := Env.cut_eq' (E := Tryd.m11.E) (f0 := 3000) (c := 3) (q := ⟨[[0, 0, 0, 0, 1, 0, 1, 1], [0, 1, 0, 0, 1, 0, 1, 1], [2, 0, 0, 1, 0, 1, 1], [1, 0], [0, 1, 1, 1]], [3, 10, 11, 12], 1, ⟨[.fn 18 [(0, 0)], .fd (.sl 5), .fd (.int .i64), .fd (.int .i64)], [⟨0, 30, [.st 7], false⟩]⟩⟩) (by kernel_rfl) (((), t10, t11, t12, ()), ((b0, ()), ())) (by kernel_rfl) (by kernel_rfl)
def Tryd.m97.p : Pln := ⟨[], 0, ⟨[], []⟩, ⟨[.own 1 9], []⟩, true, [], []⟩
noncomputable def Tryd.m97.E : Env En.Dop.D4 := envOf Tryd.prog 97 Tryd.tb [] Tryd.m97.p
theorem Tryd.m97.ok : plnOk En.Dop.D4 Tryd.prog 97 Tryd.m97.p = true := by kernel_rfl
noncomputable def Tryd.m97.c : Ctr En.Dop.D4 := ⟨97, Tryd.m97.p.bn, Tryd.m97.p.sp, Tryd.m97.p.rs, Tryd.m97.p.flat, .opt (Tryd.m97.E.run 3000 Tryd.m97.p.sp)⟩
theorem Tryd.m97.holds : Tryd.m97.c.Holds Tryd.prog := fun_ctr 3000 Tryd.tbOk hct_nil Tryd.m97.ok
noncomputable def Tryd.m97 : Option (Spec.D En.Dop.D4 ⟨[.own 1 9], []⟩) := Tryd.m97.E.run 3000 Tryd.m97.p.sp ((), ())
theorem Tryd.m97_eq : m97 =
 some ((([124, 124] : List UInt8) :: ([38, 38] : List UInt8) :: ([124] : List UInt8) :: ([94] : List UInt8) :: ([38] : List UInt8) :: ([61, 61, 32, 33, 61] : List UInt8) :: ([60, 32, 60, 61, 32, 62, 32, 62, 61] : List UInt8) :: ([60, 60, 32, 62, 62] : List UInt8) :: ([43, 32, 45] : List UInt8) :: ([42, 32, 47, 32, 37] : List UInt8) :: @List.nil (List UInt8), ()), ()) := by kernel_rfl
def Tryd.m12.p : Pln := ⟨[(2, ⟨[[0, 0, 0, 0, 0, 0, 1, 1, 0, 1], [0, 1, 0, 0, 0, 0, 1, 1, 0, 1], [0, 1, 0, 0, 0, 1, 1, 0, 1], [2, 0, 0, 0, 1, 1, 0, 1], [1, 0], [0, 1, 1, 1, 0, 1], [3, 0, 1]], [0, 4], 0, ⟨[.fd .str, .fd (.int .i64)], []⟩⟩)], 0, ⟨[.fd .str], []⟩, ⟨[.fd (.int .i64), .fd .bool], []⟩, true, [], []⟩
noncomputable def Tryd.m12.E : Env En.Dop.D4 := envOf Tryd.prog 12 Tryd.tb [Tryd.indexByte.c, Tryd.hasPrefix.c, Tryd.index.c] Tryd.m12.p
theorem Tryd.m12.ok : plnOk En.Dop.D4 Tryd.prog 12 Tryd.m12.p = true := by kernel_rfl
noncomputable def Tryd.m12.c : Ctr En.Dop.D4 := ⟨12, Tryd.m12.p.bn, Tryd.m12.p.sp, Tryd.m12.p.rs, Tryd.m12.p.flat, .opt (Tryd.m12.E.run 3000 Tryd.m12.p.sp)⟩
theorem Tryd.m12.holds : Tryd.m12.c.Holds Tryd.prog := fun_ctr 3000 Tryd.tbOk (hct_cons Tryd.indexByte.holds (hct_cons Tryd.hasPrefix.holds (hct_cons Tryd.index.holds hct_nil))) Tryd.m12.ok
noncomputable def Tryd.m12 (s : List UInt8) : Option (Spec.D En.Dop.D4 ⟨[.fd (.int .i64), .fd .bool], []⟩) := Tryd.m12.E.run 3000 Tryd.m12.p.sp ((s, ()), ())
noncomputable def Tryd.m12_2 (s : List UInt8) (at_ : Int) : Option (Spec.D En.Dop.D4 ⟨[.fd (.int .i64), .fd .bool], []⟩) := Tryd.m12.E.cut 3000 2 ((s, at_, ()), ())
theorem Tryd.m12_eq (s : List UInt8) : m12 s =
 m12_2 (s) ((0 : Int)) := by kernel_rfl
theorem Tryd.m12_2_eq (s : List UInt8) (at_ : Int) : m12_2 s at_ =
 if (decide (at_ < I s.length)) = true then
 if (decide ((0 : Int) ≤ at_ ∧ at_ ≤ I s.length ∧ I s.length ≤ I s.length)) = true then
 if (decide ((0 : Int) ≤ at_ ∧ at_ < I s.length)) = true then
 if (true) = true then
 if (decide ((0 : Int) ≤ Lib.indexByte ([32, 9, 10, 13] : List UInt8) (strAt s at_).toNat.toUInt8)) = true then
 if (inR (at_ + (1 : Int))) = true then
  m12_2 (s) (at_ + (1 : Int))
 else none
 else
 if (true) = true then
 if (Lib.hasPrefix (List.drop at_.toNat (List.take (I s.length).toNat s)) ([47, 47] : List UInt8)) = true then
 if (true) = true then
 if (decide (Lib.indexByte (List.drop at_.toNat (List.take (I s.length).toNat s)) (Int.toNat (10 : Int)).toUInt8 < (0 : Int))) = true then
 some ((I s.length, (true, ())), ())
 else
 if (inR (at_ + Lib.indexByte (List.drop at_.toNat (List.take (I s.length).toNat s)) (Int.toNat (10 : Int)).toUInt8)) = true then
   m12_2 (s) (at_ + Lib.indexByte (List.drop at_.toNat (List.take (I s.length).toNat s)) (Int.toNat (10 : Int)).toUInt8)
 else none
 else none
 else
 if (true) = true then
 if (Lib.hasPrefix (List.drop at_.toNat (List.take (I s.length).toNat s)) ([47, 42] : List UInt8)) = true then
 if (decide ((0 : Int) ≤ (2 : Int) ∧ (2 : Int) ≤ I (List.drop at_.toNat (List.take (I s.length).toNat s)).length ∧ I (List.drop at_.toNat (List.take (I s.length).toNat s)).length ≤ I (List.drop at_.toNat (List.take (I s.length).toNat s)).length)) = true then
 if (okS (List.drop (Int.toNat (2 : Int)) (List.take (I (List.drop at_.toNat (List.take (I s.length).toNat s)).length).toNat (List.drop at_.toNat (List.take (I s.length).toNat s))))) = true then
 if (decide (Lib.index (List.drop (Int.toNat (2 : Int)) (List.take (I (List.drop at_.toNat (List.take (I s.length).toNat s)).length).toNat (List.drop at_.toNat (List.take (I s.length).toNat s)))) ([42, 47] : List UInt8) < (0 : Int))) = true then
 some ((at_, (false, ())), ())
 else
 if (inR (Lib.index (List.drop (Int.toNat (2 : Int)) (List.take (I (List.drop at_.toNat (List.take (I s.length).toNat s)).length).toNat (List.drop at_.toNat (List.take (I s.length).toNat s)))) ([42, 47] : List UInt8) + (4 : Int))) = true then
 if (inR (at_ + (Lib.index (List.drop (Int.toNat (2 : Int)) (List.take (I (List.drop at_.toNat (List.take (I s.length).toNat s)).length).toNat (List.drop at_.toNat (List.take (I s.length).toNat s)))) ([42, 47] : List UInt8) + (4 : Int)))) = true then
    m12_2 (s) (at_ + (Lib.index (List.drop (Int.toNat (2 : Int)) (List.take (I (List.drop at_.toNat (List.take (I s.length).toNat s)).length).toNat (List.drop at_.toNat (List.take (I s.length).toNat s)))) ([42, 47] : List UInt8) + (4 : Int)))
 else none
 else none
 else none
 else none
 else
 some ((at_, (true, ())), ())
 else none
 else none
 else none
 else none
 else none
 else
 some ((at_, (true, ())), ()) := Env.cut_eq' (E := Tryd.m12.E) (f0 := 3000) (c := 2) (q := ⟨[[0, 0, 0, 0, 0, 0, 1, 1, 0, 1], [0, 1, 0, 0, 0, 0, 1, 1, 0, 1], [0, 1, 0, 0, 0, 1, 1, 0, 1], [2, 0, 0, 0, 1, 1, 0, 1], [1, 0], [0, 1, 1, 1, 0, 1], [3, 0, 1]], [0, 4], 0, ⟨[.fd .str, .fd (.int .i64)], []⟩⟩) (by kernel_rfl) ((s, at_, ()), ()) (by kernel_rfl) (by kernel_rfl)
def Tryd.m23.p : Pln := ⟨[], 0, ⟨[.fd (.int .u8)], []⟩, ⟨[.fd .bool], []⟩, true, [], []⟩
noncomputable def Tryd.m23.E : Env En.Dop.D4 := envOf Tryd.prog 23 Tryd.tb [] Tryd.m23.p
theorem Tryd.m23.ok : plnOk En.Dop.D4 Tryd.prog 23 Tryd.m23.p = true := by kernel_rfl
noncomputable def Tryd.m23.c : Ctr En.Dop.D4 := ⟨23, Tryd.m23.p.bn, Tryd.m23.p.sp, Tryd.m23.p.rs, Tryd.m23.p.flat, .opt (Tryd.m23.E.run 3000 Tryd.m23.p.sp)⟩
theorem Tryd.m23.holds : Tryd.m23.c.Holds Tryd.prog := fun_ctr 3000 Tryd.tbOk hct_nil Tryd.m23.ok
noncomputable def Tryd.m23 (c : Int) : Option (Spec.D En.Dop.D4 ⟨[.fd .bool], []⟩) := Tryd.m23.E.run 3000 Tryd.m23.p.sp ((c, ()), ())
theorem Tryd.m23_eq (c : Int) : m23 c =
 if (decide ((97 : Int) ≤ c)) = true then
 if (decide (c ≤ (122 : Int))) = true then
 some ((true, ()), ())
 else
 if (decide ((65 : Int) ≤ c)) = true then
 if (decide (c ≤ (90 : Int))) = true then
 some ((true, ()), ())
 else
 some ((decide (c = (95 : Int)), ()), ())
 else
 some ((decide (c = (95 : Int)), ()), ())
 else
 if (decide ((65 : Int) ≤ c)) = true then
 if (decide (c ≤ (90 : Int))) = true then
 some ((true, ()), ())
 else
 some ((decide (c = (95 : Int)), ()), ())
 else
 some ((decide (c = (95 : Int)), ()), ()) := by kernel_rfl
def Tryd.m26.p : Pln := ⟨[], 0, ⟨[.fd (.int .u8)], []⟩, ⟨[.fd .bool], []⟩, true, [], []⟩
noncomputable def Tryd.m26.E : Env En.Dop.D4 := envOf Tryd.prog 26 Tryd.tb [] Tryd.m26.p
theorem Tryd.m26.ok : plnOk En.Dop.D4 Tryd.prog 26 Tryd.m26.p = true := by kernel_rfl
noncomputable def Tryd.m26.c : Ctr En.Dop.D4 := ⟨26, Tryd.m26.p.bn, Tryd.m26.p.sp, Tryd.m26.p.rs, Tryd.m26.p.flat, .opt (Tryd.m26.E.run 3000 Tryd.m26.p.sp)⟩
theorem Tryd.m26.holds : Tryd.m26.c.Holds Tryd.prog := fun_ctr 3000 Tryd.tbOk hct_nil Tryd.m26.ok
noncomputable def Tryd.m26 (c : Int) : Option (Spec.D En.Dop.D4 ⟨[.fd .bool], []⟩) := Tryd.m26.E.run 3000 Tryd.m26.p.sp ((c, ()), ())
theorem Tryd.m26_eq (c : Int) : m26 c =
 if (decide ((48 : Int) ≤ c)) = true then
 some ((decide (c ≤ (57 : Int)), ()), ())
 else
 some ((false, ()), ()) := by kernel_rfl
def Tryd.m24.p : Pln := ⟨[(2, ⟨[[0, 0, 0, 0, 0, 0, 1, 1], [0, 1, 0, 0, 0, 0, 1, 1], [0, 1, 0, 0, 0, 1, 1], [2, 0, 0, 0, 1, 1], [1, 0], [0, 1, 1, 1]], [0, 3], 0, ⟨[.fd .str, .fd (.int .i64)], []⟩⟩)], 0, ⟨[.fd .str], []⟩, ⟨[.fd (.int .i64)], []⟩, true, [], []⟩
noncomputable def Tryd.m24.E : Env En.Dop.D4 := envOf Tryd.prog 24 Tryd.tb [Tryd.m23.c, Tryd.m26.c] Tryd.m24.p
theorem Tryd.m24.ok : plnOk En.Dop.D4 Tryd.prog 24 Tryd.m24.p = true := by kernel_rfl
noncomputable def Tryd.m24.c : Ctr En.Dop.D4 := ⟨24, Tryd.m24.p.bn, Tryd.m24.p.sp, Tryd.m24.p.rs, Tryd.m24.p.flat, .opt (Tryd.m24.E.run 3000 Tryd.m24.p.sp)⟩
theorem Tryd.m24.holds : Tryd.m24.c.Holds Tryd.prog := fun_ctr 3000 Tryd.tbOk (hct_cons Tryd.m23.holds (hct_cons Tryd.m26.holds hct_nil)) Tryd.m24.ok
noncomputable def Tryd.m24 (s : List UInt8) : Option (Spec.D En.Dop.D4 ⟨[.fd (.int .i64)], []⟩) := Tryd.m24.E.run 3000 Tryd.m24.p.sp ((s, ()), ())
noncomputable def Tryd.m24_2 (s : List UInt8) (n : Int) : Option (Spec.D En.Dop.D4 ⟨[.fd (.int .i64)], []⟩) := Tryd.m24.E.cut 3000 2 ((s, n, ()), ())
theorem Tryd.m24_eq (s : List UInt8) : m24 s =
 m24_2 (s) ((0 : Int)) := by kernel_rfl
theorem Tryd.m24_2_eq (s : List UInt8) (n : Int) : m24_2 s n =
 if (decide (n < I s.length)) = true then
 if (decide ((0 : Int) ≤ n ∧ n < I s.length)) = true then
  (m23 (strAt s n)).bind fun y3 =>
 if y3.1.1 = true then
 if (inR (n + (1 : Int))) = true then
   m24_2 (s) (n + (1 : Int))
 else none
 else
 if (decide ((0 : Int) ≤ n ∧ n < I s.length)) = true then
   (m26 (strAt s n)).bind fun y5 =>
 if y5.1.1 = true then
 if (inR (n + (1 : Int))) = true then
    m24_2 (s) (n + (1 : Int))
 else none
 else
 some ((n, ()), ())
 else none
 else none
 else
 some ((n, ()), ()) := Env.cut_eq' (E := Tryd.m24.E) (f0 := 3000) (c := 2) (q := ⟨[[0, 0, 0, 0, 0, 0, 1, 1], [0, 1, 0, 0, 0, 0, 1, 1], [0, 1, 0, 0, 0, 1, 1], [2, 0, 0, 0, 1, 1], [1, 0], [0, 1, 1, 1]], [0, 3], 0, ⟨[.fd .str, .fd (.int .i64)], []⟩⟩) (by kernel_rfl) ((s, n, ()), ()) (by kernel_rfl) (by kernel_rfl)
def Tryd.m25.p : Pln := ⟨[], 0, ⟨[.fd .str], []⟩, ⟨[.fd .bool], []⟩, true, [], []⟩
noncomputable def Tryd.m25.E : Env En.Dop.D4 := envOf Tryd.prog 25 Tryd.tb [Tryd.contains.c] Tryd.m25.p
theorem Tryd.m25.ok : plnOk En.Dop.D4 Tryd.prog 25 Tryd.m25.p = true := by kernel_rfl
noncomputable def Tryd.m25.c : Ctr En.Dop.D4 := ⟨25, Tryd.m25.p.bn, Tryd.m25.p.sp, Tryd.m25.p.rs, Tryd.m25.p.flat, .opt (Tryd.m25.E.run 3000 Tryd.m25.p.sp)⟩
theorem Tryd.m25.holds : Tryd.m25.c.Holds Tryd.prog := fun_ctr 3000 Tryd.tbOk (hct_cons Tryd.contains.holds hct_nil) Tryd.m25.ok
noncomputable def Tryd.m25 (w : List UInt8) : Option (Spec.D En.Dop.D4 ⟨[.fd .bool], []⟩) := Tryd.m25.E.run 3000 Tryd.m25.p.sp ((w, ()), ())
theorem Tryd.m25_eq (w : List UInt8) : m25 w =
 if (!decide (w = @List.nil UInt8)) = true then
 if (okS w) = true then
 if (!Lib.contains w ([32] : List UInt8)) = true then
 if (decide (([32] : List UInt8).length + w.length ≤ (9223372036854775807 : Nat))) = true then
 if (decide (((32 : UInt8) :: @List.nil UInt8 ++ w).length + ([32] : List UInt8).length ≤ (9223372036854775807 : Nat))) = true then
 if (okS (([32, 98, 114, 101, 97, 107, 32, 99, 97, 115, 101, 32, 99, 104, 97, 114, 32, 99, 111, 110, 116, 105, 110, 117, 101, 32, 100, 101, 102, 97, 117, 108, 116, 32, 100, 111, 32, 101, 108, 115, 101, 32, 102, 111, 114, 32, 103, 101, 116, 99, 32, 103, 111, 116, 111, 32, 105, 102] : List UInt8).append ([32, 105, 110, 116, 32, 112, 117, 116, 99, 32, 114, 101, 116, 117, 114, 110, 32, 115, 105, 122, 101, 111, 102, 32, 115, 116, 114, 117, 99, 116, 32, 115, 119, 105, 116, 99, 104, 32, 117, 110, 115, 105, 103, 110, 101, 100, 32, 118, 111, 105, 100, 32, 119, 104, 105, 108, 101, 32] : List UInt8))) = true then
 some ((Lib.contains (([32, 98, 114, 101, 97, 107, 32, 99, 97, 115, 101, 32, 99, 104, 97, 114, 32, 99, 111, 110, 116, 105, 110, 117, 101, 32, 100, 101, 102, 97, 117, 108, 116, 32, 100, 111, 32, 101, 108, 115, 101, 32, 102, 111, 114, 32, 103, 101, 116, 99, 32, 103, 111, 116, 111, 32, 105, 102] : List UInt8).append ([32, 105, 110, 116, 32, 112, 117, 116, 99, 32, 114, 101, 116, 117, 114, 110, 32, 115, 105, 122, 101, 111, 102, 32, 115, 116, 114, 117, 99, 116, 32, 115, 119, 105, 116, 99, 104, 32, 117, 110, 115, 105, 103, 110, 101, 100, 32, 118, 111, 105, 100, 32, 119, 104, 105, 108, 101, 32] : List UInt8)) ((32 : UInt8) :: @List.nil UInt8 ++ w ++ (32 : UInt8) :: @List.nil UInt8), ()), ())
 else none
 else none
 else none
 else
 some ((false, ()), ())
 else none
 else
 some ((false, ()), ()) := by kernel_rfl
def Tryd.m22.p : Pln := ⟨[], 1, ⟨[.fd (.int .i64), .fd (.int .i64), .fd (.int .i64), .al 0 0], [⟨0, 9, [.st 1], false⟩]⟩, ⟨[.st 4, .fd (.int .i64)], [⟨0, 9, [.fd .str], false⟩]⟩, true, [], []⟩
noncomputable def Tryd.m22.E : Env En.Dop.D4 := envOf Tryd.prog 22 Tryd.tb [] Tryd.m22.p
theorem Tryd.m22.ok : plnOk En.Dop.D4 Tryd.prog 22 Tryd.m22.p = true := by kernel_rfl
noncomputable def Tryd.m22.c : Ctr En.Dop.D4 := ⟨22, Tryd.m22.p.bn, Tryd.m22.p.sp, Tryd.m22.p.rs, Tryd.m22.p.flat, .opt (Tryd.m22.E.run 3000 Tryd.m22.p.sp)⟩
theorem Tryd.m22.holds : Tryd.m22.c.Holds Tryd.prog := fun_ctr 3000 Tryd.tbOk hct_nil Tryd.m22.ok
noncomputable def Tryd.m22 (kind : Int) (n : Int) (size : Int) (b0 : List UInt8) : Option (Spec.D En.Dop.D4 ⟨[.st 4, .fd (.int .i64)], [⟨0, 9, [.fd .str], false⟩]⟩) := Tryd.m22.E.run 3000 Tryd.m22.p.sp ((kind, n, size, (), ()), ((b0, ()), ()))
theorem Tryd.m22_eq (kind : Int) (n : Int) (size : Int) (b0 : List UInt8) : m22 kind n size b0 =
 if (decide ((0 : Int) ≤ (0 : Int) ∧ (0 : Int) ≤ size ∧ size ≤ I b0.length)) = true then
 some ((Dop.Tok.mk kind (List.drop (Int.toNat (0 : Int)) (List.take size.toNat b0)) n (0 : Int), ((0 : Int), ())), ((b0, ()), ()))
 else none := by kernel_rfl
def Tryd.m27.p : Pln := ⟨[(9, ⟨[[0, 0, 0, 0, 1, 0, 1, 1, 1, 1, 1], [0, 1, 0, 0, 1, 0, 1, 1, 1, 1, 1], [2, 0, 0, 1, 0, 1, 1, 1, 1, 1], [1, 0], [0, 1, 1, 1, 1, 1, 1]], [0, 5, 6, 34, 35], 0, ⟨[.fd .str, .fd (.int .i64), .fd (.int .i64), .fd (.int .i64), .fd (.int .i64)], []⟩⟩)], 0, ⟨[.fd .str], []⟩, ⟨[.fd (.int .i64), .fd .bool], []⟩, true, [(6, ⟨[(0, true), (2, true)], [1, 3], [0, 1, 0, 7], false⟩)], []⟩
noncomputable def Tryd.m27.E : Env En.Dop.D4 := envOf Tryd.prog 27 Tryd.tb [Tryd.hasPrefix.c, Tryd.lower.c, Tryd.indexByte.c] Tryd.m27.p
theorem Tryd.m27.ok : plnOk En.Dop.D4 Tryd.prog 27 Tryd.m27.p = true := by kernel_rfl
noncomputable def Tryd.m27.c : Ctr En.Dop.D4 := ⟨27, Tryd.m27.p.bn, Tryd.m27.p.sp, Tryd.m27.p.rs, Tryd.m27.p.flat, .opt (Tryd.m27.E.run 3000 Tryd.m27.p.sp)⟩
theorem Tryd.m27.holds : Tryd.m27.c.Holds Tryd.prog := fun_ctr 3000 Tryd.tbOk (hct_cons Tryd.hasPrefix.holds (hct_cons Tryd.lower.holds (hct_cons Tryd.indexByte.holds hct_nil))) Tryd.m27.ok
noncomputable def Tryd.m27 (s : List UInt8) : Option (Spec.D En.Dop.D4 ⟨[.fd (.int .i64), .fd .bool], []⟩) := Tryd.m27.E.run 3000 Tryd.m27.p.sp ((s, ()), ())
noncomputable def Tryd.m27_9 (s : List UInt8) (base : Int) (n : Int) (t34 : Int) (t35 : Int) : Option (Spec.D En.Dop.D4 ⟨[.fd (.int .i64), .fd .bool], []⟩) := Tryd.m27.E.cut 3000 9 ((s, base, n, t34, t35, ()), ())
theorem Tryd.m27_eq (s : List UInt8) : m27 s =
 if (inR (I s.length - (1 : Int))) = true then
 if (decide ((0 : Int) ≤ I s.length - (1 : Int) ∧ I s.length - (1 : Int) < I s.length)) = true then
 if (decide (strAt s (I s.length - (1 : Int)) = (117 : Int))) = true then
 if (decide ((0 : Int) ≤ (0 : Int) ∧ (0 : Int) ≤ I s.length - (1 : Int) ∧ I s.length - (1 : Int) ≤ I s.length)) = true then
 if (true) = true then
 if (Lib.hasPrefix (List.drop (Int.toNat (0 : Int)) (List.take (I s.length - (1 : Int)).toNat s)) ([48, 120] : List UInt8)) = true then
 if (decide ((0 : Int) ≤ (2 : Int) ∧ (2 : Int) ≤ I (List.drop (Int.toNat (0 : Int)) (List.take (I s.length - (1 : Int)).toNat s)).length ∧ I (List.drop (Int.toNat (0 : Int)) (List.take (I s.length - (1 : Int)).toNat s)).length ≤ I (List.drop (Int.toNat (0 : Int)) (List.take (I s.length - (1 : Int)).toNat s)).length)) = true then
  m27_9 (List.drop (Int.toNat (2 : Int)) (List.take (I (List.drop (Int.toNat (0 : Int)) (List.take (I s.length - (1 : Int)).toNat s)).length).toNat (List.drop (Int.toNat (0 : Int)) (List.take (I s.length - (1 : Int)).toNat s)))) ((16 : Int)) ((0 : Int)) (I (List.drop (Int.toNat (2 : Int)) (List.take (I (List.drop (Int.toNat (0 : Int)) (List.take (I s.length - (1 : Int)).toNat s)).length).toNat (List.drop (Int.toNat (0 : Int)) (List.take (I s.length - (1 : Int)).toNat s)))).length) ((0 : Int))
 else none
 else
 if (true) = true then
 if (Lib.hasPrefix (List.drop (Int.toNat (0 : Int)) (List.take (I s.length - (1 : Int)).toNat s)) ([48, 88] : List UInt8)) = true then
 if (decide ((0 : Int) ≤ (2 : Int) ∧ (2 : Int) ≤ I (List.drop (Int.toNat (0 : Int)) (List.take (I s.length - (1 : Int)).toNat s)).length ∧ I (List.drop (Int.toNat (0 : Int)) (List.take (I s.length - (1 : Int)).toNat s)).length ≤ I (List.drop (Int.toNat (0 : Int)) (List.take (I s.length - (1 : Int)).toNat s)).length)) = true then
   m27_9 (List.drop (Int.toNat (2 : Int)) (List.take (I (List.drop (Int.toNat (0 : Int)) (List.take (I s.length - (1 : Int)).toNat s)).length).toNat (List.drop (Int.toNat (0 : Int)) (List.take (I s.length - (1 : Int)).toNat s)))) ((16 : Int)) ((0 : Int)) (I (List.drop (Int.toNat (2 : Int)) (List.take (I (List.drop (Int.toNat (0 : Int)) (List.take (I s.length - (1 : Int)).toNat s)).length).toNat (List.drop (Int.toNat (0 : Int)) (List.take (I s.length - (1 : Int)).toNat s)))).length) ((0 : Int))
 else none
 else
   m27_9 (List.drop (Int.toNat (0 : Int)) (List.take (I s.length - (1 : Int)).toNat s)) ((10 : Int)) ((0 : Int)) (I (List.drop (Int.toNat (0 : Int)) (List.take (I s.length - (1 : Int)).toNat s)).length) ((0 : Int))
 else none
 else none
 else none
 else
 if (decide ((0 : Int) ≤ I s.length - (1 : Int) ∧ I s.length - (1 : Int) < I s.length)) = true then
 if (decide (strAt s (I s.length - (1 : Int)) = (85 : Int))) = true then
 if (decide ((0 : Int) ≤ (0 : Int) ∧ (0 : Int) ≤ I s.length - (1 : Int) ∧ I s.length - (1 : Int) ≤ I s.length)) = true then
 if (true) = true then
 if (Lib.hasPrefix (List.drop (Int.toNat (0 : Int)) (List.take (I s.length - (1 : Int)).toNat s)) ([48, 120] : List UInt8)) = true then
 if (decide ((0 : Int) ≤ (2 : Int) ∧ (2 : Int) ≤ I (List.drop (Int.toNat (0 : Int)) (List.take (I s.length - (1 : Int)).toNat s)).length ∧ I (List.drop (Int.toNat (0 : Int)) (List.take (I s.length - (1 : Int)).toNat s)).length ≤ I (List.drop (Int.toNat (0 : Int)) (List.take (I s.length - (1 : Int)).toNat s)).length)) = true then
   m27_9 (List.drop (Int.toNat (2 : Int)) (List.take (I (List.drop (Int.toNat (0 : Int)) (List.take (I s.length - (1 : Int)).toNat s)).length).toNat (List.drop (Int.toNat (0 : Int)) (List.take (I s.length - (1 : Int)).toNat s)))) ((16 : Int)) ((0 : Int)) (I (List.drop (Int.toNat (2 : Int)) (List.take (I (List.drop (Int.toNat (0 : Int)) (List.take (I s.length - (1 : Int)).toNat s)).length).toNat (List.drop (Int.toNat (0 : Int)) (List.take (I s.length - (1 : Int)).toNat s)))).length) ((0 : Int))
 else none
 else
 if (true) = true then
 if (Lib.hasPrefix (List.drop (Int.toNat (0 : Int)) (List.take (I s.length - (1 : Int)).toNat s)) ([48, 88] : List UInt8)) = true then
 if (decide ((0 : Int) ≤ (2 : Int) ∧ (2 : Int) ≤ I (List.drop (Int.toNat (0 : Int)) (List.take (I s.length - (1 : Int)).toNat s)).length ∧ I (List.drop (Int.toNat (0 : Int)) (List.take (I s.length - (1 : Int)).toNat s)).length ≤ I (List.drop (Int.toNat (0 : Int)) (List.take (I s.length - (1 : Int)).toNat s)).length)) = true then
   m27_9 (List.drop (Int.toNat (2 : Int)) (List.take (I (List.drop (Int.toNat (0 : Int)) (List.take (I s.length - (1 : Int)).toNat s)).length).toNat (List.drop (Int.toNat (0 : Int)) (List.take (I s.length - (1 : Int)).toNat s)))) ((16 : Int)) ((0 : Int)) (I (List.drop (Int.toNat (2 : Int)) (List.take (I (List.drop (Int.toNat (0 : Int)) (List.take (I s.length - (1 : Int)).toNat s)).length).toNat (List.drop (Int.toNat (0 : Int)) (List.take (I s.length - (1 : Int)).toNat s)))).length) ((0 : Int))
 else none
 else
   m27_9 (List.drop (Int.toNat (0 : Int)) (List.take (I s.length - (1 : Int)).toNat s)) ((10 : Int)) ((0 : Int)) (I (List.drop (Int.toNat (0 : Int)) (List.take (I s.length - (1 : Int)).toNat s)).length) ((0 : Int))
 else none
 else none
 else none
 else
 if (true) = true then
 if (Lib.hasPrefix s ([48, 120] : List UInt8)) = true then
 if (decide ((0 : Int) ≤ (2 : Int) ∧ (2 : Int) ≤ I s.length ∧ I s.length ≤ I s.length)) = true then
   m27_9 (List.drop (Int.toNat (2 : Int)) (List.take (I s.length).toNat s)) ((16 : Int)) ((0 : Int)) (I (List.drop (Int.toNat (2 : Int)) (List.take (I s.length).toNat s)).length) ((0 : Int))
 else none
 else
 if (true) = true then
 if (Lib.hasPrefix s ([48, 88] : List UInt8)) = true then
 if (decide ((0 : Int) ≤ (2 : Int) ∧ (2 : Int) ≤ I s.length ∧ I s.length ≤ I s.length)) = true then
   m27_9 (List.drop (Int.toNat (2 : Int)) (List.take (I s.length).toNat s)) ((16 : Int)) ((0 : Int)) (I (List.drop (Int.toNat (2 : Int)) (List.take (I s.length).toNat s)).length) ((0 : Int))
 else none
 else
   m27_9 (s) ((10 : Int)) ((0 : Int)) (I s.length) ((0 : Int))
 else none
 else none
 else none
 else none
 else none := by kernel_rfl
theorem Tryd.m27_9_eq (s : List UInt8) (base : Int) (n : Int) (t34 : Int) (t35 : Int) : m27_9 s base n t34 t35 =
 if (decide (t35 < t34)) = true then
 if (inR (t35 + (1 : Int))) = true then
 if (decide ((0 : Int) ≤ t35 ∧ t35 ≤ t35 + (1 : Int) ∧ t35 + (1 : Int) ≤ I s.length)) = true then
 if (okL (List.drop t35.toNat (List.take (t35 + (1 : Int)).toNat s))) = true then
 if (decide ((0 : Int) ≤ (0 : Int) ∧ (0 : Int) < I (Lib.toLowerA (List.drop t35.toNat (List.take (t35 + (1 : Int)).toNat s))).length)) = true then
 if (true) = true then
 if (decide (Lib.indexByte ([48, 49, 50, 51, 52, 53, 54, 55, 56, 57, 97, 98, 99, 100, 101, 102] : List UInt8) (strAt (Lib.toLowerA (List.drop t35.toNat (List.take (t35 + (1 : Int)).toNat s))) (0 : Int)).toNat.toUInt8 < (0 : Int))) = true then
 some (((0 : Int), (false, ())), ())
 else
 if (decide (base ≤ Lib.indexByte ([48, 49, 50, 51, 52, 53, 54, 55, 56, 57, 97, 98, 99, 100, 101, 102] : List UInt8) (strAt (Lib.toLowerA (List.drop t35.toNat (List.take (t35 + (1 : Int)).toNat s))) (0 : Int)).toNat.toUInt8)) = true then
 some (((0 : Int), (false, ())), ())
 else
 if (inR (n * base)) = true then
 if (inR (n * base + Lib.indexByte ([48, 49, 50, 51, 52, 53, 54, 55, 56, 57, 97, 98, 99, 100, 101, 102] : List UInt8) (strAt (Lib.toLowerA (List.drop t35.toNat (List.take (t35 + (1 : Int)).toNat s))) (0 : Int)).toNat.toUInt8)) = true then
 if (decide ((4294967295 : Int) < n * base + Lib.indexByte ([48, 49, 50, 51, 52, 53, 54, 55, 56, 57, 97, 98, 99, 100, 101, 102] : List UInt8) (strAt (Lib.toLowerA (List.drop t35.toNat (List.take (t35 + (1 : Int)).toNat s))) (0 : Int)).toNat.toUInt8)) = true then
 some (((0 : Int), (false, ())), ())
 else
 if (inR (t35 + (1 : Int))) = true then
   m27_9 (s) (base) (n * base + Lib.indexByte ([48, 49, 50, 51, 52, 53, 54, 55, 56, 57, 97, 98, 99, 100, 101, 102] : List UInt8) (strAt (Lib.toLowerA (List.drop t35.toNat (List.take (t35 + (1 : Int)).toNat s))) (0 : Int)).toNat.toUInt8) (t34) (t35 + (1 : Int))
 else none
 else none
 else none
 else none
 else none
 else none
 else none
 else none
 else
 some ((n, (!decide (s = @List.nil UInt8), ())), ()) := Env.cut_eq' (E := Tryd.m27.E) (f0 := 3000) (c := 9) (q := ⟨[[0, 0, 0, 0, 1, 0, 1, 1, 1, 1, 1], [0, 1, 0, 0, 1, 0, 1, 1, 1, 1, 1], [2, 0, 0, 1, 0, 1, 1, 1, 1, 1], [1, 0], [0, 1, 1, 1, 1, 1, 1]], [0, 5, 6, 34, 35], 0, ⟨[.fd .str, .fd (.int .i64), .fd (.int .i64), .fd (.int .i64), .fd (.int .i64)], []⟩⟩) (by kernel_rfl) ((s, base, n, t34, t35, ()), ()) (by kernel_rfl) (by kernel_rfl)
def Tryd.m28.p : Pln := ⟨[], 0, ⟨[.fd .str], []⟩, ⟨[.fd (.int .i64), .fd (.int .i64)], []⟩, true, [], []⟩
noncomputable def Tryd.m28.E : Env En.Dop.D4 := envOf Tryd.prog 28 Tryd.tb [] Tryd.m28.p
theorem Tryd.m28.ok : plnOk En.Dop.D4 Tryd.prog 28 Tryd.m28.p = true := by kernel_rfl
noncomputable def Tryd.m28.c : Ctr En.Dop.D4 := ⟨28, Tryd.m28.p.bn, Tryd.m28.p.sp, Tryd.m28.p.rs, Tryd.m28.p.flat, .opt (Tryd.m28.E.run 3000 Tryd.m28.p.sp)⟩
theorem Tryd.m28.holds : Tryd.m28.c.Holds Tryd.prog := fun_ctr 3000 Tryd.tbOk hct_nil Tryd.m28.ok
noncomputable def Tryd.m28 (s : List UInt8) : Option (Spec.D En.Dop.D4 ⟨[.fd (.int .i64), .fd (.int .i64)], []⟩) := Tryd.m28.E.run 3000 Tryd.m28.p.sp ((s, ()), ())
theorem Tryd.m28_eq (s : List UInt8) : m28 s =
 if (decide ((4 : Int) ≤ I s.length)) = true then
 if (decide ((0 : Int) ≤ (1 : Int) ∧ (1 : Int) < I s.length)) = true then
 if (decide (strAt s (1 : Int) = (92 : Int))) = true then
 if (decide ((0 : Int) ≤ (3 : Int) ∧ (3 : Int) < I s.length)) = true then
 if (decide (strAt s (3 : Int) = (39 : Int))) = true then
 if (decide ((0 : Int) ≤ (2 : Int) ∧ (2 : Int) < I s.length)) = true then
 if ((mlookI (mputI (mputI (mputI (mputI (mputI (@List.nil (Int × Int)) (110 : Int) (10 : Int)) (116 : Int) (9 : Int)) (48 : Int) (0 : Int)) (92 : Int) (92 : Int)) (39 : Int) (39 : Int)) (strAt s (2 : Int))).isSome) = true then
 some (((mlookI (mputI (mputI (mputI (mputI (mputI (@List.nil (Int × Int)) (110 : Int) (10 : Int)) (116 : Int) (9 : Int)) (48 : Int) (0 : Int)) (92 : Int) (92 : Int)) (39 : Int) (39 : Int)) (strAt s (2 : Int))).getD (0 : Int), ((4 : Int), ())), ())
 else
 some (((0 : Int), ((0 : Int), ())), ())
 else none
 else
 if (decide ((3 : Int) ≤ I s.length)) = true then
 if (decide ((0 : Int) ≤ (1 : Int) ∧ (1 : Int) < I s.length)) = true then
 if (!decide (strAt s (1 : Int) = (39 : Int))) = true then
 if (decide ((0 : Int) ≤ (1 : Int) ∧ (1 : Int) < I s.length)) = true then
 if (!decide (strAt s (1 : Int) = (92 : Int))) = true then
 if (decide ((0 : Int) ≤ (1 : Int) ∧ (1 : Int) < I s.length)) = true then
 if (!decide (strAt s (1 : Int) = (10 : Int))) = true then
 if (decide ((0 : Int) ≤ (2 : Int) ∧ (2 : Int) < I s.length)) = true then
 if (decide (strAt s (2 : Int) = (39 : Int))) = true then
 if (decide ((0 : Int) ≤ (1 : Int) ∧ (1 : Int) < I s.length)) = true then
 if (inR (strAt s (1 : Int))) = true then
 some ((strAt s (1 : Int), ((3 : Int), ())), ())
 else none
 else none
 else
 some (((0 : Int), ((0 : Int), ())), ())
 else none
 else
 some (((0 : Int), ((0 : Int), ())), ())
 else none
 else
 some (((0 : Int), ((0 : Int), ())), ())
 else none
 else
 some (((0 : Int), ((0 : Int), ())), ())
 else none
 else
 some (((0 : Int), ((0 : Int), ())), ())
 else none
 else
 if (decide ((3 : Int) ≤ I s.length)) = true then
 if (decide ((0 : Int) ≤ (1 : Int) ∧ (1 : Int) < I s.length)) = true then
 if (!decide (strAt s (1 : Int) = (39 : Int))) = true then
 if (decide ((0 : Int) ≤ (1 : Int) ∧ (1 : Int) < I s.length)) = true then
 if (!decide (strAt s (1 : Int) = (92 : Int))) = true then
 if (decide ((0 : Int) ≤ (1 : Int) ∧ (1 : Int) < I s.length)) = true then
 if (!decide (strAt s (1 : Int) = (10 : Int))) = true then
 if (decide ((0 : Int) ≤ (2 : Int) ∧ (2 : Int) < I s.length)) = true then
 if (decide (strAt s (2 : Int) = (39 : Int))) = true then
 if (decide ((0 : Int) ≤ (1 : Int) ∧ (1 : Int) < I s.length)) = true then
 if (inR (strAt s (1 : Int))) = true then
 some ((strAt s (1 : Int), ((3 : Int), ())), ())
 else none
 else none
 else
 some (((0 : Int), ((0 : Int), ())), ())
 else none
 else
 some (((0 : Int), ((0 : Int), ())), ())
 else none
 else
 some (((0 : Int), ((0 : Int), ())), ())
 else none
 else
 some (((0 : Int), ((0 : Int), ())), ())
 else none
 else
 some (((0 : Int), ((0 : Int), ())), ())
 else none
 else
 if (decide ((3 : Int) ≤ I s.length)) = true then
 if (decide ((0 : Int) ≤ (1 : Int) ∧ (1 : Int) < I s.length)) = true then
 if (!decide (strAt s (1 : Int) = (39 : Int))) = true then
 if (decide ((0 : Int) ≤ (1 : Int) ∧ (1 : Int) < I s.length)) = true then
 if (!decide (strAt s (1 : Int) = (92 : Int))) = true then
 if (decide ((0 : Int) ≤ (1 : Int) ∧ (1 : Int) < I s.length)) = true then
 if (!decide (strAt s (1 : Int) = (10 : Int))) = true then
 if (decide ((0 : Int) ≤ (2 : Int) ∧ (2 : Int) < I s.length)) = true then
 if (decide (strAt s (2 : Int) = (39 : Int))) = true then
 if (decide ((0 : Int) ≤ (1 : Int) ∧ (1 : Int) < I s.length)) = true then
 if (inR (strAt s (1 : Int))) = true then
 some ((strAt s (1 : Int), ((3 : Int), ())), ())
 else none
 else none
 else
 some (((0 : Int), ((0 : Int), ())), ())
 else none
 else
 some (((0 : Int), ((0 : Int), ())), ())
 else none
 else
 some (((0 : Int), ((0 : Int), ())), ())
 else none
 else
 some (((0 : Int), ((0 : Int), ())), ())
 else none
 else
 some (((0 : Int), ((0 : Int), ())), ()) := by kernel_rfl
def Tryd.m47.p : Pln := ⟨[], 0, ⟨[], []⟩, ⟨[.own 1 9], []⟩, true, [], []⟩
noncomputable def Tryd.m47.E : Env En.Dop.D4 := envOf Tryd.prog 47 Tryd.tb [Tryd.fields.c] Tryd.m47.p
theorem Tryd.m47.ok : plnOk En.Dop.D4 Tryd.prog 47 Tryd.m47.p = true := by kernel_rfl
noncomputable def Tryd.m47.c : Ctr En.Dop.D4 := ⟨47, Tryd.m47.p.bn, Tryd.m47.p.sp, Tryd.m47.p.rs, Tryd.m47.p.flat, .opt (Tryd.m47.E.run 3000 Tryd.m47.p.sp)⟩
theorem Tryd.m47.holds : Tryd.m47.c.Holds Tryd.prog := fun_ctr 3000 Tryd.tbOk (hct_cons Tryd.fields.holds hct_nil) Tryd.m47.ok
noncomputable def Tryd.m47 : Option (Spec.D En.Dop.D4 ⟨[.own 1 9], []⟩) := Tryd.m47.E.run 3000 Tryd.m47.p.sp ((), ())
theorem Tryd.m47_eq : m47 =
 if (okL (([60, 60, 61, 32, 62, 62, 61, 32, 43, 43, 32, 45, 45, 32, 45, 62, 32, 43, 61, 32, 45, 61, 32, 42, 61, 32, 47, 61, 32, 37, 61, 32, 38, 61, 32, 124, 61, 32, 94, 61, 32, 60, 60, 32, 62, 62, 32, 60, 61, 32, 62, 61, 32, 61, 61, 32] : List UInt8).append ([33, 61, 32, 38, 38, 32, 124, 124, 32, 43, 32, 45, 32, 42, 32, 47, 32, 37, 32, 38, 32, 124, 32, 94, 32, 126, 32, 33, 32, 60, 32, 62, 32, 61, 32, 63, 32, 58, 32, 59, 32, 44, 32, 46, 32, 40, 32, 41, 32, 91, 32, 93, 32, 123, 32, 125] : List UInt8)) && decide ((Lib.fields (([60, 60, 61, 32, 62, 62, 61, 32, 43, 43, 32, 45, 45, 32, 45, 62, 32, 43, 61, 32, 45, 61, 32, 42, 61, 32, 47, 61, 32, 37, 61, 32, 38, 61, 32, 124, 61, 32, 94, 61, 32, 60, 60, 32, 62, 62, 32, 60, 61, 32, 62, 61, 32, 61, 61, 32] : List UInt8).append ([33, 61, 32, 38, 38, 32, 124, 124, 32, 43, 32, 45, 32, 42, 32, 47, 32, 37, 32, 38, 32, 124, 32, 94, 32, 126, 32, 33, 32, 60, 32, 62, 32, 61, 32, 63, 32, 58, 32, 59, 32, 44, 32, 46, 32, 40, 32, 41, 32, 91, 32, 93, 32, 123, 32, 125] : List UInt8))).length ≤ maxLen)) = true then
 some ((List.map (fun (a : List UInt8) => a) (Lib.fields (([60, 60, 61, 32, 62, 62, 61, 32, 43, 43, 32, 45, 45, 32, 45, 62, 32, 43, 61, 32, 45, 61, 32, 42, 61, 32, 47, 61, 32, 37, 61, 32, 38, 61, 32, 124, 61, 32, 94, 61, 32, 60, 60, 32, 62, 62, 32, 60, 61, 32, 62, 61, 32, 61, 61, 32] : List UInt8).append ([33, 61, 32, 38, 38, 32, 124, 124, 32, 43, 32, 45, 32, 42, 32, 47, 32, 37, 32, 38, 32, 124, 32, 94, 32, 126, 32, 33, 32, 60, 32, 62, 32, 61, 32, 63, 32, 58, 32, 59, 32, 44, 32, 46, 32, 40, 32, 41, 32, 91, 32, 93, 32, 123, 32, 125] : List UInt8))), ()), ())
 else none := by kernel_rfl
def Tryd.m29.p : Pln := ⟨[(2, ⟨[[0, 0, 0, 0, 1, 0, 1], [0, 1, 0, 0, 1, 0, 1], [2, 0, 0, 1, 0, 1], [1, 0], [0, 1, 1]], [0, 5, 6, 7], 0, ⟨[.fd .str, .own 1 9, .fd (.int .i64), .fd (.int .i64)], []⟩⟩)], 0, ⟨[.fd .str], []⟩, ⟨[.fd .str], []⟩, true, [], []⟩
noncomputable def Tryd.m29.E : Env En.Dop.D4 := envOf Tryd.prog 29 Tryd.tb [Tryd.m47.c, Tryd.hasPrefix.c] Tryd.m29.p
theorem Tryd.m29.ok : plnOk En.Dop.D4 Tryd.prog 29 Tryd.m29.p = true := by kernel_rfl
noncomputable def Tryd.m29.c : Ctr En.Dop.D4 := ⟨29, Tryd.m29.p.bn, Tryd.m29.p.sp, Tryd.m29.p.rs, Tryd.m29.p.flat, .opt (Tryd.m29.E.run 3000 Tryd.m29.p.sp)⟩
theorem Tryd.m29.holds : Tryd.m29.c.Holds Tryd.prog := fun_ctr 3000 Tryd.tbOk (hct_cons Tryd.m47.holds (hct_cons Tryd.hasPrefix.holds hct_nil)) Tryd.m29.ok
noncomputable def Tryd.m29 (s : List UInt8) : Option (Spec.D En.Dop.D4 ⟨[.fd .str], []⟩) := Tryd.m29.E.run 3000 Tryd.m29.p.sp ((s, ()), ())
noncomputable def Tryd.m29_2 (s : List UInt8) (t5 : List (List UInt8)) (t6 : Int) (t7 : Int) : Option (Spec.D En.Dop.D4 ⟨[.fd .str], []⟩) := Tryd.m29.E.cut 3000 2 ((s, t5, t6, t7, ()), ())
theorem Tryd.m29_eq (s : List UInt8) : m29 s =
 (m47).bind fun y2 =>
  m29_2 (s) y2.1.1 (I y2.1.1.length) ((0 : Int)) := by kernel_rfl
theorem Tryd.m29_2_eq (s : List UInt8) (t5 : List (List UInt8)) (t6 : Int) (t7 : Int) : m29_2 s t5 t6 t7 =
 if (decide (t7 < t6)) = true then
 if (decide ((0 : Int) ≤ t7 ∧ t7 < I t5.length)) = true then
 if (decide (t7.toNat < t5.length)) = true then
 if (true) = true then
 if (Lib.hasPrefix s (@List.getD (List UInt8) t5 t7.toNat (@List.nil UInt8))) = true then
 some ((@List.getD (List UInt8) t5 t7.toNat (@List.nil UInt8), ()), ())
 else
 if (inR (t7 + (1 : Int))) = true then
  m29_2 (s) (t5) (t6) (t7 + (1 : Int))
 else none
 else none
 else none
 else none
 else
 some ((@List.nil UInt8, ()), ()) := Env.cut_eq' (E := Tryd.m29.E) (f0 := 3000) (c := 2) (q := ⟨[[0, 0, 0, 0, 1, 0, 1], [0, 1, 0, 0, 1, 0, 1], [2, 0, 0, 1, 0, 1], [1, 0], [0, 1, 1]], [0, 5, 6, 7], 0, ⟨[.fd .str, .own 1 9, .fd (.int .i64), .fd (.int .i64)], []⟩⟩) (by kernel_rfl) ((s, t5, t6, t7, ()), ()) (by kernel_rfl) (by kernel_rfl)
def Tryd.m13.p : Pln := ⟨[], 0, ⟨[.fd .str], []⟩, ⟨[.st 4, .fd (.int .i64)], []⟩, true, [], []⟩
noncomputable def Tryd.m13.E : Env En.Dop.D4 := envOf Tryd.prog 13 Tryd.tb [Tryd.m23.c, Tryd.m24.c, Tryd.m25.c, Tryd.m22.c, Tryd.m26.c, Tryd.m27.c, Tryd.m28.c, Tryd.m29.c] Tryd.m13.p
theorem Tryd.m13.ok : plnOk En.Dop.D4 Tryd.prog 13 Tryd.m13.p = true := by kernel_rfl
noncomputable def Tryd.m13.c : Ctr En.Dop.D4 := ⟨13, Tryd.m13.p.bn, Tryd.m13.p.sp, Tryd.m13.p.rs, Tryd.m13.p.flat, .opt (Tryd.m13.E.run 3000 Tryd.m13.p.sp)⟩
theorem Tryd.m13.holds : Tryd.m13.c.Holds Tryd.prog := fun_ctr 3000 Tryd.tbOk (hct_cons Tryd.m23.holds (hct_cons Tryd.m24.holds (hct_cons Tryd.m25.holds (hct_cons Tryd.m22.holds (hct_cons Tryd.m26.holds (hct_cons Tryd.m27.holds (hct_cons Tryd.m28.holds (hct_cons Tryd.m29.holds hct_nil)))))))) Tryd.m13.ok
noncomputable def Tryd.m13 (o : List UInt8) : Option (Spec.D En.Dop.D4 ⟨[.st 4, .fd (.int .i64)], []⟩) := Tryd.m13.E.run 3000 Tryd.m13.p.sp ((o, ()), ())
theorem Tryd.m13_eq (o : List UInt8) : m13 o =
 if (decide ((0 : Int) ≤ (0 : Int) ∧ (0 : Int) < I o.length)) = true then
 (m23 (strAt o (0 : Int))).bind fun y2 =>
 if y2.1.1 = true then
  (m24 (o)).bind fun y4 =>
 if (decide ((0 : Int) ≤ (0 : Int) ∧ (0 : Int) ≤ y4.1.1 ∧ y4.1.1 ≤ I o.length)) = true then
   (m25 (List.drop (Int.toNat (0 : Int)) (List.take y4.1.1.toNat o))).bind fun y5 =>
 if y5.1.1 = true then
    (m22 ((2 : Int)) ((0 : Int)) y4.1.1 (o)).bind fun y7 =>
 some ((y7.1.1, (y7.1.2.1, ())), ())
 else
    (m22 ((1 : Int)) ((0 : Int)) y4.1.1 (o)).bind fun y7 =>
 some ((y7.1.1, (y7.1.2.1, ())), ())
 else none
 else
 if (decide ((0 : Int) ≤ (0 : Int) ∧ (0 : Int) < I o.length)) = true then
  (m26 (strAt o (0 : Int))).bind fun y4 =>
 if y4.1.1 = true then
   (m24 (o)).bind fun y6 =>
 if (decide ((0 : Int) ≤ (0 : Int) ∧ (0 : Int) ≤ y6.1.1 ∧ y6.1.1 ≤ I o.length)) = true then
    (m27 (List.drop (Int.toNat (0 : Int)) (List.take y6.1.1.toNat o))).bind fun y7 =>
 if (!y7.1.2.1) = true then
 some ((Dop.Tok.mk (0 : Int) (@List.nil UInt8) (0 : Int) (0 : Int), ((3 : Int), ())), ())
 else
     (m22 ((3 : Int)) y7.1.1 y6.1.1 (o)).bind fun y9 =>
 some ((y9.1.1, (y9.1.2.1, ())), ())
 else none
 else
 if (decide ((0 : Int) ≤ (0 : Int) ∧ (0 : Int) < I o.length)) = true then
 if (decide (strAt o (0 : Int) = (39 : Int))) = true then
    (m28 (o)).bind fun y7 =>
 if (decide ((0 : Int) < y7.1.2.1)) = true then
     (m22 ((3 : Int)) y7.1.1 y7.1.2.1 (o)).bind fun y9 =>
 some ((y9.1.1, (y9.1.2.1, ())), ())
 else
 some ((Dop.Tok.mk (0 : Int) (@List.nil UInt8) (0 : Int) (0 : Int), ((2 : Int), ())), ())
 else
    (m29 (o)).bind fun y7 =>
 if (!decide (y7.1.1 = @List.nil UInt8)) = true then
     (m22 ((4 : Int)) ((0 : Int)) (I y7.1.1.length) (o)).bind fun y9 =>
 some ((y9.1.1, (y9.1.2.1, ())), ())
 else
 some ((Dop.Tok.mk (0 : Int) (@List.nil UInt8) (0 : Int) (0 : Int), ((2 : Int), ())), ())
 else none
 else none
 else none := by kernel_rfl
def Tryd.m6.p : Pln := ⟨[(5, ⟨[[0, 0, 0, 0, 0, 1, 1, 1, 1], [0, 1, 0, 0, 0, 1, 1, 1, 1], [1, 1], [2, 0, 0, 1, 1, 1, 1], [1, 0]], [0, 5, 6], 0, ⟨[.fd .str, .own 4 47, .fd (.int .i64)], []⟩⟩)], 0, ⟨[.fd .str], []⟩, ⟨[.own 4 47, .fd (.int .i64), .fd (.int .i64)], []⟩, true, [], []⟩
noncomputable def Tryd.m6.E : Env En.Dop.D4 := envOf Tryd.prog 6 Tryd.tb [Tryd.m12.c, Tryd.m13.c] Tryd.m6.p
theorem Tryd.m6.ok : plnOk En.Dop.D4 Tryd.prog 6 Tryd.m6.p = true := by kernel_rfl
noncomputable def Tryd.m6.c : Ctr En.Dop.D4 := ⟨6, Tryd.m6.p.bn, Tryd.m6.p.sp, Tryd.m6.p.rs, Tryd.m6.p.flat, .opt (Tryd.m6.E.run 3000 Tryd.m6.p.sp)⟩
theorem Tryd.m6.holds : Tryd.m6.c.Holds Tryd.prog := fun_ctr 3000 Tryd.tbOk (hct_cons Tryd.m12.holds (hct_cons Tryd.m13.holds hct_nil)) Tryd.m6.ok
noncomputable def Tryd.m6 (s : List UInt8) : Option (Spec.D En.Dop.D4 ⟨[.own 4 47, .fd (.int .i64), .fd (.int .i64)], []⟩) := Tryd.m6.E.run 3000 Tryd.m6.p.sp ((s, ()), ())
noncomputable def Tryd.m6_5 (s : List UInt8) (out : List (Dop.Tok)) (at_ : Int) : Option (Spec.D En.Dop.D4 ⟨[.own 4 47, .fd (.int .i64), .fd (.int .i64)], []⟩) := Tryd.m6.E.cut 3000 5 ((s, out, at_, ()), ())
theorem Tryd.m6_eq (s : List UInt8) : m6 s =
 if (decide ((32768 : Int) < I s.length)) = true then
 some ((@List.nil Dop.Tok, ((0 : Int), ((4 : Int), ()))), ())
 else
  m6_5 (s) (@List.nil Dop.Tok) ((0 : Int)) := by kernel_rfl
theorem Tryd.m6_5_eq (s : List UInt8) (out : List (Dop.Tok)) (at_ : Int) : m6_5 s out at_ =
 if (decide ((0 : Int) ≤ at_ ∧ at_ ≤ I s.length ∧ I s.length ≤ I s.length)) = true then
 (m12 (List.drop at_.toNat (List.take (I s.length).toNat s))).bind fun y2 =>
 if (inR (at_ + y2.1.1)) = true then
 if (!y2.1.2.1) = true then
 some ((@List.nil Dop.Tok, (at_ + y2.1.1, ((2 : Int), ()))), ())
 else
 if (decide (at_ + y2.1.1 = I s.length)) = true then
 if (andC none (room (40 : Nat) (out.length + (Dop.Tok.mk (0 : Int) (@List.nil UInt8) (0 : Int) (at_ + y2.1.1) :: @List.nil Dop.Tok).length))) = true then
 some ((out ++ Dop.Tok.mk (0 : Int) (@List.nil UInt8) (0 : Int) (at_ + y2.1.1) :: @List.nil Dop.Tok, ((0 : Int), ((0 : Int), ()))), ())
 else none
 else
 if (decide ((0 : Int) ≤ at_ + y2.1.1 ∧ at_ + y2.1.1 ≤ I s.length ∧ I s.length ≤ I s.length)) = true then
   (m13 (List.drop (at_ + y2.1.1).toNat (List.take (I s.length).toNat s))).bind fun y5 =>
 if (!decide (y5.1.2.1 = (0 : Int))) = true then
 some ((@List.nil Dop.Tok, (at_ + y2.1.1, (y5.1.2.1, ()))), ())
 else
 if (decide (I out.length = (8192 : Int))) = true then
 some ((@List.nil Dop.Tok, (at_ + y2.1.1, ((4 : Int), ()))), ())
 else
 if (andC none (room (40 : Nat) (out.length + (Dop.Tok.mk y5.1.1.kind y5.1.1.text y5.1.1.n (at_ + y2.1.1) :: @List.nil Dop.Tok).length))) = true then
 if (inR (at_ + y2.1.1 + I y5.1.1.text.length)) = true then
    m6_5 (s) (out ++ Dop.Tok.mk y5.1.1.kind y5.1.1.text y5.1.1.n (at_ + y2.1.1) :: @List.nil Dop.Tok) (at_ + y2.1.1 + I y5.1.1.text.length)
 else none
 else none
 else none
 else none
 else none := Env.cut_eq' (E := Tryd.m6.E) (f0 := 3000) (c := 5) (q := ⟨[[0, 0, 0, 0, 0, 1, 1, 1, 1], [0, 1, 0, 0, 0, 1, 1, 1, 1], [1, 1], [2, 0, 0, 1, 1, 1, 1], [1, 0]], [0, 5, 6], 0, ⟨[.fd .str, .own 4 47, .fd (.int .i64)], []⟩⟩) (by kernel_rfl) ((s, out, at_, ()), ()) (by kernel_rfl) (by kernel_rfl)
def Tryd.m82.p : Pln := ⟨[], 1, ⟨[.al 0 0], [bxA]⟩, ⟨[.fd .bool], [bxB]⟩, false, [(1, ⟨[(0, true), (1, false), (2, true), (3, true), (4, true), (5, true), (6, true), (7, true), (8, false), (9, true), (10, true), (11, true), (12, true), (13, false), (14, false), (15, true), (16, true), (17, true), (18, true), (19, true), (20, true), (21, false), (22, true), (23, true), (24, true), (25, false), (26, true), (27, false), (28, false), (29, false), (30, true), (31, true), (32, true)], [1000000], [0, 1, 3, 7, 15, 31, 63, 127, 255, 511, 31, 1055, 3103, 7199, 15391, 32767, 65535, 131071, 262143, 524287, 1048575, 2097151, 262143, 4456447, 12845055, 29622271, 63176703, 134217727, 268435455, 536870911, 1073741823, 2147483647, 4294967295], false⟩)], []⟩
noncomputable def Tryd.m82.E : Env En.Dop.D4 := envOf Tryd.prog 82 Tryd.tb [Tryd.m14.c] Tryd.m82.p
theorem Tryd.m82.ok : plnOk En.Dop.D4 Tryd.prog 82 Tryd.m82.p = true := by kernel_rfl
noncomputable def Tryd.m82.c : Ctr En.Dop.D4 := ⟨82, Tryd.m82.p.bn, Tryd.m82.p.sp, Tryd.m82.p.rs, Tryd.m82.p.flat, .opt (Tryd.m82.E.run 3000 Tryd.m82.p.sp)⟩
theorem Tryd.m82.holds : Tryd.m82.c.Holds Tryd.prog := fun_ctr 3000 Tryd.tbOk (hct_cons Tryd.m14.holds hct_nil) Tryd.m82.ok
noncomputable def Tryd.m82 (c0 : List Dop.Tok) (c1 : Int) (c2 : List Dop.Nde) (c3 : List Dop.Typ) (c4 c5 c6 c7 : Int) : Option (Spec.D En.Dop.D4 ⟨[.fd .bool], [bxB]⟩) := Tryd.m82.E.run 3000 Tryd.m82.p.sp (((), ()), ((c0, c1, c2, c3, c4, c5, c6, c7, ()), ()))
theorem Tryd.m82_eq (c0 : List Dop.Tok) (c1 : Int) (c2 : List Dop.Nde) (c3 : List Dop.Typ) (c4 c5 c6 c7 : Int) : m82 c0 c1 c2 c3 c4 c5 c6 c7 =
 (m14 c0 c1 c2 c3 c4 c5 c6 c7).bind fun y2 =>
 if (decide (y2.1.1.kind = (1 : Int))) = true then
 if (inR (y2.2.1.2.1 + (1 : Int))) = true then
 if (decide (y2.2.1.2.1 + (1 : Int) < I y2.2.1.1.length)) = true then
 if (inR (y2.2.1.2.1 + (1 : Int))) = true then
 if (decide ((0 : Int) ≤ y2.2.1.2.1 + (1 : Int) ∧ y2.2.1.2.1 + (1 : Int) < I y2.2.1.1.length)) = true then
 some ((decide ((@List.getD Dop.Tok y2.2.1.1 (y2.2.1.2.1 + (1 : Int)).toNat Dop.d4).text = (58 : UInt8) :: @List.nil UInt8), ()), ((y2.2.1.1, (y2.2.1.2.1, (y2.2.1.2.2.1, (y2.2.1.2.2.2.1, (y2.2.1.2.2.2.2.1, (y2.2.1.2.2.2.2.2.1, (y2.2.1.2.2.2.2.2.2.1, (y2.2.1.2.2.2.2.2.2.2.1, ())))))))), ()))
 else none
 else none
 else
 some ((false, ()), ((y2.2.1.1, (y2.2.1.2.1, (y2.2.1.2.2.1, (y2.2.1.2.2.2.1, (y2.2.1.2.2.2.2.1, (y2.2.1.2.2.2.2.2.1, (y2.2.1.2.2.2.2.2.2.1, (y2.2.1.2.2.2.2.2.2.2.1, ())))))))), ()))
 else none
 else
 some ((false, ()), ((y2.2.1.1, (y2.2.1.2.1, (y2.2.1.2.2.1, (y2.2.1.2.2.2.1, (y2.2.1.2.2.2.2.1, (y2.2.1.2.2.2.2.2.1, (y2.2.1.2.2.2.2.2.2.1, (y2.2.1.2.2.2.2.2.2.2.1, ())))))))), ())) := by kernel_rfl
end Go.Proofs
