/-
 Functions of the seat, lifted: plan, model, contract, equations. Written by a program (Lift) that ran the layer's evaluation; Lean checks each line.
-/
import Derived.Test.YtkpokomghbhadaaDoorLfA
set_option maxRecDepth 100000
namespace Go.Proofs
open Go Go.En
open Tryd
def Tryd.m30q.p : Pln := ⟨[], 1, ⟨[.al 0 0], [⟨0, 52, [.fd (.sl 4), .st 0, .hd, .hd, .st 0, .st 0, .fd (.int .i64), .st 0], false⟩]⟩, ⟨[.fd (.int .i64)], [⟨0, 52, [.fd (.sl 4), .fd (.int .i64), .hd, .hd, .fd (.int .i64), .fd (.int .i64), .fd (.int .i64), .fd (.int .i64)], false⟩]⟩, false, [(3, ⟨[(0, true), (1, true), (2, true), (3, false), (4, true), (5, true), (6, true), (7, false), (8, false), (9, true), (10, false), (11, false), (12, false)], [13], [0, 1, 3, 7, 0, 16, 48, 112, 240, 496, 1023, 2047, 0, 8191], false⟩)], []⟩
noncomputable def Tryd.m30q.E : Env En.Dop.D4 := envOf Tryd.prog 30 Tryd.tb [] Tryd.m30q.p
theorem Tryd.m30q.ok : plnOk En.Dop.D4 Tryd.prog 30 Tryd.m30q.p = true := by kernel_rfl
noncomputable def Tryd.m30q.c : Ctr En.Dop.D4 := ⟨30, Tryd.m30q.p.bn, Tryd.m30q.p.sp, Tryd.m30q.p.rs, Tryd.m30q.p.flat, .opt (Tryd.m30q.E.run 3000 Tryd.m30q.p.sp)⟩
theorem Tryd.m30q.holds : Tryd.m30q.c.Holds Tryd.prog := fun_ctr 3000 Tryd.tbOk hct_nil Tryd.m30q.ok
noncomputable def Tryd.m30q (c0 : List (Dop.Tok)) (c1 : Int) (c4 : Int) (c5 : Int) (c6 : Int) (c7 : Int) : Option (Spec.D En.Dop.D4 ⟨[.fd (.int .i64)], [⟨0, 52, [.fd (.sl 4), .fd (.int .i64), .hd, .hd, .fd (.int .i64), .fd (.int .i64), .fd (.int .i64), .fd (.int .i64)], false⟩]⟩) := Tryd.m30q.E.run 3000 Tryd.m30q.p.sp (((), ()), ((c0, c1, (), (), c4, c5, c6, c7, ()), ()))
theorem Tryd.m30q_eq (c0 : List (Dop.Tok)) (c1 : Int) (c4 : Int) (c5 : Int) (c6 : Int) (c7 : Int) : m30q c0 c1 c4 c5 c6 c7 =
 if (decide (I c0.length = (0 : Int))) = true then
 some (((0 : Int), ()), ((c0, (c1, ((), ((), (c4, (c5, (c6, (c7, ())))))))), ()))
 else
 if (inR (I c0.length - (1 : Int))) = true then
 if (decide ((0 : Int) ≤ I c0.length - (1 : Int) ∧ I c0.length - (1 : Int) < I c0.length)) = true then
 if (inR ((@List.getD Dop.Tok c0 (I c0.length - (1 : Int)).toNat Dop.d4).at_ + I (@List.getD Dop.Tok c0 (I c0.length - (1 : Int)).toNat Dop.d4).text.length)) = true then
 some (((@List.getD Dop.Tok c0 (I c0.length - (1 : Int)).toNat Dop.d4).at_ + I (@List.getD Dop.Tok c0 (I c0.length - (1 : Int)).toNat Dop.d4).text.length, ()), ((c0, (c1, ((), ((), (c4, (c5, (c6, (c7, ())))))))), ()))
 else none
 else none
 else none := by kernel_rfl
def Tryd.m14q.p : Pln := ⟨[], 1, ⟨[.al 0 0], [⟨0, 52, [.fd (.sl 4), .st 0, .hd, .hd, .st 0, .st 0, .fd (.int .i64), .st 0], false⟩]⟩, ⟨[.st 4], [⟨0, 52, [.fd (.sl 4), .fd (.int .i64), .hd, .hd, .fd (.int .i64), .fd (.int .i64), .fd (.int .i64), .fd (.int .i64)], false⟩]⟩, false, [(1, ⟨[(0, true), (1, true), (2, true), (3, false), (4, true), (5, true), (6, true), (7, true), (8, true), (9, false), (10, true), (11, true), (12, true), (13, false), (14, false), (15, true), (16, true)], [], [0, 1, 3, 7, 15, 31, 63, 127, 255, 511, 63, 1087, 3135, 7231, 15423, 32767, 65535], false⟩), (3, ⟨[(0, true), (1, true), (2, true), (3, false), (4, true), (5, true), (6, true), (7, false), (8, false), (9, false)], [10], [0, 1, 3, 7, 0, 16, 48, 112, 255, 511, 1023], false⟩)], []⟩
noncomputable def Tryd.m14q.E : Env En.Dop.D4 := envOf Tryd.prog 14 Tryd.tb [Tryd.m30q.c] Tryd.m14q.p
theorem Tryd.m14q.ok : plnOk En.Dop.D4 Tryd.prog 14 Tryd.m14q.p = true := by kernel_rfl
noncomputable def Tryd.m14q.c : Ctr En.Dop.D4 := ⟨14, Tryd.m14q.p.bn, Tryd.m14q.p.sp, Tryd.m14q.p.rs, Tryd.m14q.p.flat, .opt (Tryd.m14q.E.run 3000 Tryd.m14q.p.sp)⟩
theorem Tryd.m14q.holds : Tryd.m14q.c.Holds Tryd.prog := fun_ctr 3000 Tryd.tbOk (hct_cons Tryd.m30q.holds hct_nil) Tryd.m14q.ok
noncomputable def Tryd.m14q (c0 : List (Dop.Tok)) (c1 : Int) (c4 : Int) (c5 : Int) (c6 : Int) (c7 : Int) : Option (Spec.D En.Dop.D4 ⟨[.st 4], [⟨0, 52, [.fd (.sl 4), .fd (.int .i64), .hd, .hd, .fd (.int .i64), .fd (.int .i64), .fd (.int .i64), .fd (.int .i64)], false⟩]⟩) := Tryd.m14q.E.run 3000 Tryd.m14q.p.sp (((), ()), ((c0, c1, (), (), c4, c5, c6, c7, ()), ()))
theorem Tryd.m14q_eq (c0 : List (Dop.Tok)) (c1 : Int) (c4 : Int) (c5 : Int) (c6 : Int) (c7 : Int) : m14q c0 c1 c4 c5 c6 c7 =
 if (!decide (c6 = (0 : Int))) = true then
  (m30q c0 c1 c4 c5 c6 c7).bind fun y3 =>
 some ((Dop.Tok.mk (0 : Int) (@List.nil UInt8) (0 : Int) y3.1.1, ()), ((y3.2.1.1, (y3.2.1.2.1, ((), ((), (y3.2.1.2.2.2.2.1, (y3.2.1.2.2.2.2.2.1, (y3.2.1.2.2.2.2.2.2.1, (y3.2.1.2.2.2.2.2.2.2.1, ())))))))), ()))
 else
 if (decide (I c0.length ≤ c1)) = true then
  (m30q c0 c1 c4 c5 c6 c7).bind fun y4 =>
 some ((Dop.Tok.mk (0 : Int) (@List.nil UInt8) (0 : Int) y4.1.1, ()), ((y4.2.1.1, (y4.2.1.2.1, ((), ((), (y4.2.1.2.2.2.2.1, (y4.2.1.2.2.2.2.2.1, (y4.2.1.2.2.2.2.2.2.1, (y4.2.1.2.2.2.2.2.2.2.1, ())))))))), ()))
 else
 if (decide ((0 : Int) ≤ c1 ∧ c1 < I c0.length)) = true then
 some ((@List.getD Dop.Tok c0 c1.toNat Dop.d4, ()), ((c0, (c1, ((), ((), (c4, (c5, (c6, (c7, ())))))))), ()))
 else none := by kernel_rfl
def Tryd.m32q.p : Pln := ⟨[], 1, ⟨[.al 0 0, .fd .str], [⟨0, 52, [.fd (.sl 4), .st 0, .hd, .hd, .st 0, .st 0, .fd (.int .i64), .st 0], false⟩]⟩, ⟨[.fd .bool], [⟨0, 52, [.fd (.sl 4), .fd (.int .i64), .hd, .hd, .fd (.int .i64), .fd (.int .i64), .fd (.int .i64), .fd (.int .i64)], false⟩]⟩, false, [], []⟩
noncomputable def Tryd.m32q.E : Env En.Dop.D4 := envOf Tryd.prog 32 Tryd.tb [Tryd.m14q.c] Tryd.m32q.p
theorem Tryd.m32q.ok : plnOk En.Dop.D4 Tryd.prog 32 Tryd.m32q.p = true := by kernel_rfl
noncomputable def Tryd.m32q.c : Ctr En.Dop.D4 := ⟨32, Tryd.m32q.p.bn, Tryd.m32q.p.sp, Tryd.m32q.p.rs, Tryd.m32q.p.flat, .opt (Tryd.m32q.E.run 3000 Tryd.m32q.p.sp)⟩
theorem Tryd.m32q.holds : Tryd.m32q.c.Holds Tryd.prog := fun_ctr 3000 Tryd.tbOk (hct_cons Tryd.m14q.holds hct_nil) Tryd.m32q.ok
noncomputable def Tryd.m32q (s : List UInt8) (c0 : List (Dop.Tok)) (c1 : Int) (c4 : Int) (c5 : Int) (c6 : Int) (c7 : Int) : Option (Spec.D En.Dop.D4 ⟨[.fd .bool], [⟨0, 52, [.fd (.sl 4), .fd (.int .i64), .hd, .hd, .fd (.int .i64), .fd (.int .i64), .fd (.int .i64), .fd (.int .i64)], false⟩]⟩) := Tryd.m32q.E.run 3000 Tryd.m32q.p.sp (((), s, ()), ((c0, c1, (), (), c4, c5, c6, c7, ()), ()))
theorem Tryd.m32q_eq (s : List UInt8) (c0 : List (Dop.Tok)) (c1 : Int) (c4 : Int) (c5 : Int) (c6 : Int) (c7 : Int) : m32q s c0 c1 c4 c5 c6 c7 =
 (m14q c0 c1 c4 c5 c6 c7).bind fun y2 =>
 if (decide (y2.1.1.kind = (4 : Int))) = true then
 some ((decide (y2.1.1.text = s), ()), ((y2.2.1.1, (y2.2.1.2.1, ((), ((), (y2.2.1.2.2.2.2.1, (y2.2.1.2.2.2.2.2.1, (y2.2.1.2.2.2.2.2.2.1, (y2.2.1.2.2.2.2.2.2.2.1, ())))))))), ()))
 else
 if (decide (y2.1.1.kind = (2 : Int))) = true then
 some ((decide (y2.1.1.text = s), ()), ((y2.2.1.1, (y2.2.1.2.1, ((), ((), (y2.2.1.2.2.2.2.1, (y2.2.1.2.2.2.2.2.1, (y2.2.1.2.2.2.2.2.2.1, (y2.2.1.2.2.2.2.2.2.2.1, ())))))))), ()))
 else
 some ((false, ()), ((y2.2.1.1, (y2.2.1.2.1, ((), ((), (y2.2.1.2.2.2.2.1, (y2.2.1.2.2.2.2.2.1, (y2.2.1.2.2.2.2.2.2.1, (y2.2.1.2.2.2.2.2.2.2.1, ())))))))), ())) := by kernel_rfl
def Tryd.m78q.p : Pln := ⟨[], 1, ⟨[.al 0 0], [⟨0, 52, [.fd (.sl 4), .st 0, .hd, .hd, .st 0, .st 0, .fd (.int .i64), .st 0], false⟩]⟩, ⟨[.fd .bool], [⟨0, 52, [.fd (.sl 4), .fd (.int .i64), .hd, .hd, .fd (.int .i64), .fd (.int .i64), .fd (.int .i64), .fd (.int .i64)], false⟩]⟩, false, [], []⟩
noncomputable def Tryd.m78q.E : Env En.Dop.D4 := envOf Tryd.prog 78 Tryd.tb [Tryd.m32q.c] Tryd.m78q.p
theorem Tryd.m78q.ok : plnOk En.Dop.D4 Tryd.prog 78 Tryd.m78q.p = true := by kernel_rfl
noncomputable def Tryd.m78q.c : Ctr En.Dop.D4 := ⟨78, Tryd.m78q.p.bn, Tryd.m78q.p.sp, Tryd.m78q.p.rs, Tryd.m78q.p.flat, .opt (Tryd.m78q.E.run 3000 Tryd.m78q.p.sp)⟩
theorem Tryd.m78q.holds : Tryd.m78q.c.Holds Tryd.prog := fun_ctr 3000 Tryd.tbOk (hct_cons Tryd.m32q.holds hct_nil) Tryd.m78q.ok
noncomputable def Tryd.m78q (c0 : List (Dop.Tok)) (c1 : Int) (c4 : Int) (c5 : Int) (c6 : Int) (c7 : Int) : Option (Spec.D En.Dop.D4 ⟨[.fd .bool], [⟨0, 52, [.fd (.sl 4), .fd (.int .i64), .hd, .hd, .fd (.int .i64), .fd (.int .i64), .fd (.int .i64), .fd (.int .i64)], false⟩]⟩) := Tryd.m78q.E.run 3000 Tryd.m78q.p.sp (((), ()), ((c0, c1, (), (), c4, c5, c6, c7, ()), ()))
theorem Tryd.m78q_eq (c0 : List (Dop.Tok)) (c1 : Int) (c4 : Int) (c5 : Int) (c6 : Int) (c7 : Int) : m78q c0 c1 c4 c5 c6 c7 =
 (m32q ([105, 110, 116] : List UInt8) c0 c1 c4 c5 c6 c7).bind fun y2 =>
 if y2.1.1 = true then
 some ((true, ()), ((y2.2.1.1, (y2.2.1.2.1, ((), ((), (y2.2.1.2.2.2.2.1, (y2.2.1.2.2.2.2.2.1, (y2.2.1.2.2.2.2.2.2.1, (y2.2.1.2.2.2.2.2.2.2.1, ())))))))), ()))
 else
  (m32q ([117, 110, 115, 105, 103, 110, 101, 100] : List UInt8) y2.2.1.1 y2.2.1.2.1 y2.2.1.2.2.2.2.1 y2.2.1.2.2.2.2.2.1 y2.2.1.2.2.2.2.2.2.1 y2.2.1.2.2.2.2.2.2.2.1).bind fun y4 =>
 if y4.1.1 = true then
 some ((true, ()), ((y4.2.1.1, (y4.2.1.2.1, ((), ((), (y4.2.1.2.2.2.2.1, (y4.2.1.2.2.2.2.2.1, (y4.2.1.2.2.2.2.2.2.1, (y4.2.1.2.2.2.2.2.2.2.1, ())))))))), ()))
 else
   (m32q ([99, 104, 97, 114] : List UInt8) y4.2.1.1 y4.2.1.2.1 y4.2.1.2.2.2.2.1 y4.2.1.2.2.2.2.2.1 y4.2.1.2.2.2.2.2.2.1 y4.2.1.2.2.2.2.2.2.2.1).bind fun y6 =>
 if y6.1.1 = true then
 some ((true, ()), ((y6.2.1.1, (y6.2.1.2.1, ((), ((), (y6.2.1.2.2.2.2.1, (y6.2.1.2.2.2.2.2.1, (y6.2.1.2.2.2.2.2.2.1, (y6.2.1.2.2.2.2.2.2.2.1, ())))))))), ()))
 else
    (m32q ([118, 111, 105, 100] : List UInt8) y6.2.1.1 y6.2.1.2.1 y6.2.1.2.2.2.2.1 y6.2.1.2.2.2.2.2.1 y6.2.1.2.2.2.2.2.2.1 y6.2.1.2.2.2.2.2.2.2.1).bind fun y8 =>
 if y8.1.1 = true then
 some ((true, ()), ((y8.2.1.1, (y8.2.1.2.1, ((), ((), (y8.2.1.2.2.2.2.1, (y8.2.1.2.2.2.2.2.1, (y8.2.1.2.2.2.2.2.2.1, (y8.2.1.2.2.2.2.2.2.2.1, ())))))))), ()))
 else
     (m32q ([115, 116, 114, 117, 99, 116] : List UInt8) y8.2.1.1 y8.2.1.2.1 y8.2.1.2.2.2.2.1 y8.2.1.2.2.2.2.2.1 y8.2.1.2.2.2.2.2.2.1 y8.2.1.2.2.2.2.2.2.2.1).bind fun y10 =>
 some ((y10.1.1, ()), ((y10.2.1.1, (y10.2.1.2.1, ((), ((), (y10.2.1.2.2.2.2.1, (y10.2.1.2.2.2.2.2.1, (y10.2.1.2.2.2.2.2.2.1, (y10.2.1.2.2.2.2.2.2.2.1, ())))))))), ())) := by kernel_rfl
end Go.Proofs
