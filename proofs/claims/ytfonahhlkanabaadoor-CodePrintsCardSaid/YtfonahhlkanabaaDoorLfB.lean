/-
  Functions of the seat, lifted: plan, model, contract, equations. Written by a program (Lift) that ran the layer's evaluation; Lean checks each line.
-/
import Derived.Test.YtfonahhlkanabaaDoorLfA
import Derived.Test.YtfonahhlkanabaaDoorTab2
namespace Go.Proofs
open Go Go.En

def Tryd.m7.p : Pln := ⟨[(5, ⟨[[0, 0, 0, 0, 1, 0, 1, 1, 1, 1], [0, 1, 0, 0, 1, 0, 1, 1, 1, 1], [2, 0, 0, 1, 0, 1, 1, 1, 1], [1, 0], [0, 1, 1, 1, 1, 1]], [3, 4, 34, 35, 36], 1, ⟨[.al 0 0, .fn 14 [], .fd (.sl 3), .fd (.int .i64), .fd (.int .i64)], [⟨0, 48, [.al 0 0, .own 2 5], false⟩]⟩⟩), (9, ⟨[[0, 0, 0, 0, 1, 0, 1, 1, 0, 0, 1, 1, 0, 0, 1, 0, 1, 1, 1, 1], [0, 1, 0, 0, 1, 0, 1, 1, 0, 0, 1, 1, 0, 0, 1, 0, 1, 1, 1, 1], [2, 0, 0, 1, 0, 1, 1, 0, 0, 1, 1, 0, 0, 1, 0, 1, 1, 1, 1], [1, 2], [0, 1, 1, 1, 0, 0, 1, 1, 0, 0, 1, 0, 1, 1, 1, 1], [1, 1], [0, 1, 1, 1, 0, 0, 1, 0, 1, 1, 1, 1], [2, 0, 0, 1, 0, 1, 1, 1, 1], [1, 0], [0, 1, 1, 1, 1, 1]], [3, 4, 7, 34, 35, 36, 77, 78], 1, ⟨[.al 0 0, .fn 14 [], .own 1 9, .fd (.sl 3), .fd (.int .i64), .fd (.int .i64), .st 9, .fd (.int .i64)], [⟨0, 48, [.al 0 0, .own 2 5], false⟩]⟩⟩)], 0, ⟨[.st 4], []⟩, ⟨[.fd .str], []⟩, true, [(3, ⟨[(0, true), (1, false), (2, false), (3, true), (4, true), (5, true), (6, false), (7, false), (8, true), (9, true), (10, true), (11, true), (12, false), (13, false), (14, true), (15, true), (16, true), (17, true), (18, false), (19, false), (20, true), (21, true)], [22], [0, 1, 3, 7, 0, 0, 32, 119, 255, 511, 0, 0, 2048, 7415, 16383, 32767, 0, 0, 131072, 474359, 1048575, 2097151, 4194303], false⟩), (7, ⟨[(0, true), (1, true), (2, false), (3, false), (4, true), (5, true), (6, false), (7, false), (8, true), (9, true), (10, false), (11, false), (12, true), (13, true), (14, false), (15, false), (16, true), (17, true), (18, false), (19, false), (20, true), (21, true), (22, false), (23, false), (24, true), (25, false), (26, false), (27, true), (28, true), (29, false), (30, false), (31, true), (32, true), (33, false), (34, false), (35, false), (36, true)], [], [0, 0, 2, 7, 0, 0, 32, 127, 0, 0, 512, 2047, 0, 0, 8192, 32767, 0, 0, 131072, 524287, 0, 0, 2097152, 8388607, 0, 16777216, 67108863, 0, 0, 268435456, 1073741823, 0, 0, 4294967296, 17179869183, 34359738367, 68719476735], false⟩)], [(15, [])]⟩
noncomputable def Tryd.m7.E : Env En.Dop.D7 := envOf Tryd.prog 7 Tryd.tb [Tryd.quote.c, Tryd.itoa.c, Tryd.cc0.c, Tryd.cc1.c, Tryd.join.c, Tryd.bstr.c] Tryd.m7.p
theorem Tryd.m7.ok : plnOk En.Dop.D7 Tryd.prog 7 Tryd.m7.p = true := by kernel_rfl
noncomputable def Tryd.m7.c : Ctr En.Dop.D7 := ⟨7, Tryd.m7.p.bn, Tryd.m7.p.sp, Tryd.m7.p.rs, Tryd.m7.p.flat, .opt (Tryd.m7.E.run 3000 Tryd.m7.p.sp)⟩
theorem Tryd.m7.holds : Tryd.m7.c.Holds Tryd.prog := fun_ctr 3000 Tryd.tbOk (hct_cons Tryd.quote.holds (hct_cons Tryd.itoa.holds (hct_cons Tryd.cc0.holds (hct_cons Tryd.cc1.holds (hct_cons Tryd.join.holds (hct_cons Tryd.bstr.holds hct_nil)))))) Tryd.m7.ok
noncomputable def Tryd.m7 (o : En.Dop.Fnc) : Option (Spec.D En.Dop.D7 ⟨[.fd .str], []⟩) := Tryd.m7.E.run 3000 Tryd.m7.p.sp ((o, ()), ())
noncomputable def Tryd.m7_5 (t34 : List (En.Dop.Ins)) (t35 : Int) (t36 : Int) (b0_1 : List (Int)) : Option (Spec.D En.Dop.D7 ⟨[.fd .str], []⟩) := Tryd.m7.E.cut 3000 5 (((), (), t34, t35, t36, ()), (((), b0_1, ()), ()))
noncomputable def Tryd.m7_9 (t7 : List (List UInt8)) (t34 : List (En.Dop.Ins)) (t35 : Int) (t36 : Int) (t77 : En.Dop.Ar6) (t78 : Int) (b0_1 : List (Int)) : Option (Spec.D En.Dop.D7 ⟨[.fd .str], []⟩) := Tryd.m7.E.cut 3000 9 (((), (), t7, t34, t35, t36, t77, t78, ()), (((), b0_1, ()), ()))
theorem Tryd.m7_eq (o : En.Dop.Fnc) : Tryd.m7 o =
  if (okQ o.name) = true then
  if (decide ((Law.quoteL Lib.goPrintTabs o.name).length + ((32 : UInt8) :: @List.nil UInt8).length ≤ (9223372036854775807 : Nat))) = true then
  if (inI o.params) = true then
  if (decide ((Law.quoteL Lib.goPrintTabs o.name ++ (32 : UInt8) :: @List.nil UInt8).length + (Lib.itoa o.params).length ≤ (9223372036854775807 : Nat))) = true then
  if (decide ((Law.quoteL Lib.goPrintTabs o.name ++ (32 : UInt8) :: @List.nil UInt8 ++ Lib.itoa o.params).length + ((32 : UInt8) :: @List.nil UInt8).length ≤ (9223372036854775807 : Nat))) = true then
  if (inI o.regs) = true then
  if (decide ((Law.quoteL Lib.goPrintTabs o.name ++ (32 : UInt8) :: @List.nil UInt8 ++ Lib.itoa o.params ++ (32 : UInt8) :: @List.nil UInt8).length + (Lib.itoa o.regs).length ≤ (9223372036854775807 : Nat))) = true then
  if (decide ((Law.quoteL Lib.goPrintTabs o.name ++ (32 : UInt8) :: @List.nil UInt8 ++ Lib.itoa o.params ++ (32 : UInt8) :: @List.nil UInt8 ++ Lib.itoa o.regs).length + ((32 : UInt8) :: @List.nil UInt8).length ≤ (9223372036854775807 : Nat))) = true then
  if (inI o.frame) = true then
  if (decide ((Law.quoteL Lib.goPrintTabs o.name ++ (32 : UInt8) :: @List.nil UInt8 ++ Lib.itoa o.params ++ (32 : UInt8) :: @List.nil UInt8 ++ Lib.itoa o.regs ++ (32 : UInt8) :: @List.nil UInt8).length + (Lib.itoa o.frame).length ≤ (9223372036854775807 : Nat))) = true then
  if (decide ((Law.quoteL Lib.goPrintTabs o.name ++ (32 : UInt8) :: @List.nil UInt8 ++ Lib.itoa o.params ++ (32 : UInt8) :: @List.nil UInt8 ++ Lib.itoa o.regs ++ (32 : UInt8) :: @List.nil UInt8 ++ Lib.itoa o.frame).length + ((10 : UInt8) :: @List.nil UInt8).length ≤ (9223372036854775807 : Nat))) = true then
  if (room (1 : Nat) ((@List.nil Int).length + (Law.quoteL Lib.goPrintTabs o.name ++ (32 : UInt8) :: @List.nil UInt8 ++ Lib.itoa o.params ++ (32 : UInt8) :: @List.nil UInt8 ++ Lib.itoa o.regs ++ (32 : UInt8) :: @List.nil UInt8 ++ Lib.itoa o.frame ++ (10 : UInt8) :: @List.nil UInt8).length)) = true then
  Tryd.m7_5 (o.code) (I o.code.length) ((0 : Int)) (@List.nil Int ++ List.map (byO Dop.D7 (2 : Nat)) (Law.quoteL Lib.goPrintTabs o.name ++ (32 : UInt8) :: @List.nil UInt8 ++ Lib.itoa o.params ++ (32 : UInt8) :: @List.nil UInt8 ++ Lib.itoa o.regs ++ (32 : UInt8) :: @List.nil UInt8 ++ Lib.itoa o.frame ++ (10 : UInt8) :: @List.nil UInt8))
  else none
  else none
  else none
  else none
  else none
  else none
  else none
  else none
  else none
  else none
  else none
  else none := by kernel_rfl
theorem Tryd.m7_5_eq (t34 : List (En.Dop.Ins)) (t35 : Int) (t36 : Int) (b0_1 : List (Int)) : Tryd.m7_5 t34 t35 t36 b0_1 =
  if (decide (t36 < t35)) = true then
   if (decide ((0 : Int) ≤ t36 ∧ t36 < I t34.length)) = true then
   if (inI (@List.getD Dop.Ins t34 t36.toNat Dop.d3).kind) = true then
   if (inI (@List.getD Dop.Ins t34 t36.toNat Dop.d3).op) = true then
   if (inI (@List.getD Dop.Ins t34 t36.toNat Dop.d3).dst) = true then
   if (inI (@List.getD Dop.Ins t34 t36.toNat Dop.d3).a) = true then
   if (inI (@List.getD Dop.Ins t34 t36.toNat Dop.d3).b) = true then
   if (inI (@List.getD Dop.Ins t34 t36.toNat Dop.d3).n) = true then
   if (okQ (@List.getD Dop.Ins t34 t36.toNat Dop.d3).text) = true then
   if (inI (@List.getD Dop.Ins t34 t36.toNat Dop.d3).to_) = true then
   if (inI (@List.getD Dop.Ins t34 t36.toNat Dop.d3).else_) = true then
   Tryd.m7_9 (Lib.itoa (@List.getD Dop.Ins t34 t36.toNat Dop.d3).kind :: Lib.itoa (@List.getD Dop.Ins t34 t36.toNat Dop.d3).op :: Lib.itoa (@List.getD Dop.Ins t34 t36.toNat Dop.d3).dst :: Lib.itoa (@List.getD Dop.Ins t34 t36.toNat Dop.d3).a :: Lib.itoa (@List.getD Dop.Ins t34 t36.toNat Dop.d3).b :: Lib.itoa (@List.getD Dop.Ins t34 t36.toNat Dop.d3).n :: Law.quoteL Lib.goPrintTabs (@List.getD Dop.Ins t34 t36.toNat Dop.d3).text :: Lib.itoa (@List.getD Dop.Ins t34 t36.toNat Dop.d3).to_ :: Lib.itoa (@List.getD Dop.Ins t34 t36.toNat Dop.d3).else_ :: @List.nil (List UInt8)) (t34) (t35) (t36) (Dop.Ar6.mk (@List.getD Dop.Ins t34 t36.toNat Dop.d3).args0 (@List.getD Dop.Ins t34 t36.toNat Dop.d3).args1 (@List.getD Dop.Ins t34 t36.toNat Dop.d3).args2 (@List.getD Dop.Ins t34 t36.toNat Dop.d3).args3 (@List.getD Dop.Ins t34 t36.toNat Dop.d3).args4 (@List.getD Dop.Ins t34 t36.toNat Dop.d3).args5) ((0 : Int)) (b0_1)
   else none
   else none
   else none
   else none
   else none
   else none
   else none
   else none
   else none
   else none
  else
   if (decide ((0 : Nat) < b0_1.length) && b0_1.all fun (b : Int) => decide ((0 : Int) ≤ byX Dop.D7 (2 : Nat) b ∧ byX Dop.D7 (2 : Nat) b < (256 : Int))) = true then
   some ((List.map (fun (b : Int) => (byX Dop.D7 (2 : Nat) b).toNat.toUInt8) b0_1, ()), ())
   else none := Env.cut_eq' (E := Tryd.m7.E) (f0 := 3000) (c := 5) (q := ⟨[[0, 0, 0, 0, 1, 0, 1, 1, 1, 1], [0, 1, 0, 0, 1, 0, 1, 1, 1, 1], [2, 0, 0, 1, 0, 1, 1, 1, 1], [1, 0], [0, 1, 1, 1, 1, 1]], [3, 4, 34, 35, 36], 1, ⟨[.al 0 0, .fn 14 [], .fd (.sl 3), .fd (.int .i64), .fd (.int .i64)], [⟨0, 48, [.al 0 0, .own 2 5], false⟩]⟩⟩) (by kernel_rfl) (((), (), t34, t35, t36, ()), (((), b0_1, ()), ())) (by kernel_rfl) (by kernel_rfl)
theorem Tryd.m7_9_eq (t7 : List (List UInt8)) (t34 : List (En.Dop.Ins)) (t35 : Int) (t36 : Int) (t77 : En.Dop.Ar6) (t78 : Int) (b0_1 : List (Int)) : Tryd.m7_9 t7 t34 t35 t36 t77 t78 b0_1 =
  if (decide (t78 < (6 : Int))) = true then
   if (decide ((0 : Int) ≤ t78 ∧ t78 < I (6 : Nat))) = true then
   if (inI ((t77.x0 :: t77.x1 :: t77.x2 :: t77.x3 :: t77.x4 :: t77.x5 :: @List.nil Int).getD t78.toNat (0 : Int))) = true then
   if (andC none (room (16 : Nat) (t7.length + (Lib.itoa ((t77.x0 :: t77.x1 :: t77.x2 :: t77.x3 :: t77.x4 :: t77.x5 :: @List.nil Int).getD t78.toNat (0 : Int)) :: @List.nil (List UInt8)).length))) = true then
   if (inR (t78 + (1 : Int))) = true then
   Tryd.m7_9 (t7 ++ Lib.itoa ((t77.x0 :: t77.x1 :: t77.x2 :: t77.x3 :: t77.x4 :: t77.x5 :: @List.nil Int).getD t78.toNat (0 : Int)) :: @List.nil (List UInt8)) (t34) (t35) (t36) (t77) (t78 + (1 : Int)) (b0_1)
   else none
   else none
   else none
   else none
  else
   if (decide (t7.length ≤ (140737488355328 : Nat) ∧ (Lib.join t7 ((32 : UInt8) :: @List.nil UInt8)).length ≤ (140737488355328 : Nat))) = true then
   if (decide ((Lib.join t7 ((32 : UInt8) :: @List.nil UInt8)).length + ((10 : UInt8) :: @List.nil UInt8).length ≤ (9223372036854775807 : Nat))) = true then
   if (room (1 : Nat) (b0_1.length + (Lib.join t7 ((32 : UInt8) :: @List.nil UInt8) ++ (10 : UInt8) :: @List.nil UInt8).length)) = true then
   if (inR (t36 + (1 : Int))) = true then
   Tryd.m7_5 (t34) (t35) (t36 + (1 : Int)) (b0_1 ++ List.map (byO Dop.D7 (2 : Nat)) (Lib.join t7 ((32 : UInt8) :: @List.nil UInt8) ++ (10 : UInt8) :: @List.nil UInt8))
   else none
   else none
   else none
   else none := Env.cut_eq' (E := Tryd.m7.E) (f0 := 3000) (c := 9) (q := ⟨[[0, 0, 0, 0, 1, 0, 1, 1, 0, 0, 1, 1, 0, 0, 1, 0, 1, 1, 1, 1], [0, 1, 0, 0, 1, 0, 1, 1, 0, 0, 1, 1, 0, 0, 1, 0, 1, 1, 1, 1], [2, 0, 0, 1, 0, 1, 1, 0, 0, 1, 1, 0, 0, 1, 0, 1, 1, 1, 1], [1, 2], [0, 1, 1, 1, 0, 0, 1, 1, 0, 0, 1, 0, 1, 1, 1, 1], [1, 1], [0, 1, 1, 1, 0, 0, 1, 0, 1, 1, 1, 1], [2, 0, 0, 1, 0, 1, 1, 1, 1], [1, 0], [0, 1, 1, 1, 1, 1]], [3, 4, 7, 34, 35, 36, 77, 78], 1, ⟨[.al 0 0, .fn 14 [], .own 1 9, .fd (.sl 3), .fd (.int .i64), .fd (.int .i64), .st 9, .fd (.int .i64)], [⟨0, 48, [.al 0 0, .own 2 5], false⟩]⟩⟩) (by kernel_rfl) (((), (), t7, t34, t35, t36, t77, t78, ()), (((), b0_1, ()), ())) (by kernel_rfl) (by kernel_rfl)

def Tryd.m3.p : Pln := ⟨[(5, ⟨[[0, 0, 0, 0, 0, 1, 0, 1, 1, 1], [0, 1, 0, 0, 0, 1, 0, 1, 1, 1], [0, 1, 0, 0, 1, 0, 1, 1, 1], [2, 0, 0, 1, 0, 1, 1, 1], [1, 0], [0, 1, 1, 1, 1]], [2, 3, 5, 6], 2, ⟨[.al 0 0, .al 1 0, .fd .bool, .fd (.int .i64)], [⟨0, 24, [.st 4], false⟩, ⟨1, 24, [.st 4], false⟩]⟩⟩), (14, ⟨[[0, 0, 0, 0, 1, 0, 1, 1, 1, 1, 1, 1, 1, 1], [0, 1, 0, 0, 1, 0, 1, 1, 1, 1, 1, 1, 1, 1], [2, 0, 0, 1, 0, 1, 1, 1, 1, 1, 1, 1, 1], [1, 2], [0, 1, 1, 1, 1, 1, 1, 1, 1, 1]], [2, 7, 8, 99, 100], 3, ⟨[.al 0 0, .al 1 0, .al 2 0, .fd (.int .i64), .fd (.int .i64)], [⟨0, 24, [.st 4], false⟩, ⟨1, 24, [.fd .str, .fd (.int .i64), .fd (.int .i64), .fd (.int .i64), .own 3 30], false⟩, ⟨2, 24, [.fd .str, .fd (.int .i64), .fd (.int .i64), .fd (.int .i64), .own 3 30], false⟩]⟩⟩)], 0, ⟨[.st 4, .st 4], []⟩, ⟨[.fd .bool], []⟩, true, [(7, ⟨[(0, true), (1, false), (2, true), (3, false), (4, false), (5, true), (6, false), (7, true), (8, false), (9, false), (10, true), (11, true)], [], [0, 1, 0, 7, 15, 0, 32, 0, 224, 480, 1023, 2047], false⟩), (8, ⟨[(0, false), (1, false), (2, false), (3, true), (4, true), (5, true), (6, false), (7, false), (8, false), (9, false), (10, true), (11, true), (12, true), (13, true)], [], [0, 0, 3, 0, 15, 31, 63, 127, 63, 511, 1023, 63, 4095, 8191], true⟩)], [(8, [])]⟩
noncomputable def Tryd.m3.E : Env En.Dop.D7 := envOf Tryd.prog 3 Tryd.tbw [Tryd.m4.c, Tryd.m5.c, Tryd.m6.c, Tryd.m7.c] Tryd.m3.p
theorem Tryd.m3.ok : plnOk En.Dop.D7 Tryd.prog 3 Tryd.m3.p = true := by kernel_rfl
noncomputable def Tryd.m3.c : Ctr En.Dop.D7 := ⟨3, Tryd.m3.p.bn, Tryd.m3.p.sp, Tryd.m3.p.rs, Tryd.m3.p.flat, .opt (Tryd.m3.E.run 3000 Tryd.m3.p.sp)⟩
theorem Tryd.m3.holds : Tryd.m3.c.Holds Tryd.prog := fun_ctr 3000 Tryd.tbwOk (hct_cons Tryd.m4.holds (hct_cons Tryd.m5.holds (hct_cons Tryd.m6.holds (hct_cons Tryd.m7.holds hct_nil)))) Tryd.m3.ok
noncomputable def Tryd.m3 (o : En.Dop.Fnc) (t1 : En.Dop.Fnc) : Option (Spec.D En.Dop.D7 ⟨[.fd .bool], []⟩) := Tryd.m3.E.run 3000 Tryd.m3.p.sp ((o, t1, ()), ())
noncomputable def Tryd.m3_5 (t5 : Bool) (t6 : Int) (b0 : En.Dop.Fnc) (b1 : En.Dop.Fnc) : Option (Spec.D En.Dop.D7 ⟨[.fd .bool], []⟩) := Tryd.m3.E.cut 3000 5 (((), (), t5, t6, ()), ((b0, ()), (b1, ()), ()))
noncomputable def Tryd.m3_14 (t99 : Int) (t100 : Int) (b0 : En.Dop.Fnc) (b1_0 : List UInt8) (b1_1 : Int) (b1_2 : Int) (b1_3 : Int) (b1_4 : List (En.Dop.Ins)) (b2_0 : List UInt8) (b2_1 : Int) (b2_2 : Int) (b2_3 : Int) (b2_4 : List (En.Dop.Ins)) : Option (Spec.D En.Dop.D7 ⟨[.fd .bool], []⟩) := Tryd.m3.E.cut 3000 14 (((), (), (), t99, t100, ()), ((b0, ()), (b1_0, b1_1, b1_2, b1_3, b1_4, ()), (b2_0, b2_1, b2_2, b2_3, b2_4, ()), ()))
theorem Tryd.m3_eq (o : En.Dop.Fnc) (t1 : En.Dop.Fnc) : Tryd.m3 o t1 =
  (Tryd.m4 (o)).bind fun y2 =>
   if (!y2.fst.fst) = true then
    (Tryd.m5).bind fun y4 =>
     some ((y4.fst.fst, ()), ())
   else
    (Tryd.m4 (t1)).bind fun y4 =>
     if (!y4.fst.fst) = true then
      (Tryd.m5).bind fun y6 =>
       some ((y6.fst.fst, ()), ())
     else
      if (decide (o.name = t1.name)) = true then
       if (decide (o.params = t1.params)) = true then
        if (decide (o.regs = t1.regs)) = true then
         if (decide (o.frame = t1.frame)) = true then
          Tryd.m3_5 (decide (I o.code.length = I t1.code.length)) ((0 : Int)) (o) (t1)
         else
          Tryd.m3_5 (false) ((0 : Int)) (o) (t1)
        else
         Tryd.m3_5 (false) ((0 : Int)) (o) (t1)
       else
        Tryd.m3_5 (false) ((0 : Int)) (o) (t1)
      else
       Tryd.m3_5 (false) ((0 : Int)) (o) (t1) := by kernel_rfl
theorem Tryd.m3_5_eq (t5 : Bool) (t6 : Int) (b0 : En.Dop.Fnc) (b1 : En.Dop.Fnc) : Tryd.m3_5 t5 t6 b0 b1 =
  if (decide (t6 < I b0.code.length)) = true then
   if (t5) = true then
    if (decide ((0 : Int) ≤ t6 ∧ t6 < I b0.code.length)) = true then
    if (decide ((0 : Int) ≤ t6 ∧ t6 < I b1.code.length)) = true then
    Tryd.m3_5 (eqSs (List.take (15 : Nat) (List.drop (0 : Nat) (SV.v (Value.int IntKind.i64 (@List.getD Dop.Ins b0.code t6.toNat Dop.d3).kind) :: SV.v (Value.int IntKind.i64 (@List.getD Dop.Ins b0.code t6.toNat Dop.d3).op) :: SV.v (Value.int IntKind.i64 (@List.getD Dop.Ins b0.code t6.toNat Dop.d3).dst) :: SV.v (Value.int IntKind.i64 (@List.getD Dop.Ins b0.code t6.toNat Dop.d3).a) :: SV.v (Value.int IntKind.i64 (@List.getD Dop.Ins b0.code t6.toNat Dop.d3).b) :: SV.v (Value.int IntKind.i64 (@List.getD Dop.Ins b0.code t6.toNat Dop.d3).n) :: SV.v (Value.string (ByteArray.mk (Array.mk (@List.getD Dop.Ins b0.code t6.toNat Dop.d3).text))) :: SV.v (Value.int IntKind.i64 (@List.getD Dop.Ins b0.code t6.toNat Dop.d3).args0) :: SV.v (Value.int IntKind.i64 (@List.getD Dop.Ins b0.code t6.toNat Dop.d3).args1) :: SV.v (Value.int IntKind.i64 (@List.getD Dop.Ins b0.code t6.toNat Dop.d3).args2) :: SV.v (Value.int IntKind.i64 (@List.getD Dop.Ins b0.code t6.toNat Dop.d3).args3) :: SV.v (Value.int IntKind.i64 (@List.getD Dop.Ins b0.code t6.toNat Dop.d3).args4) :: SV.v (Value.int IntKind.i64 (@List.getD Dop.Ins b0.code t6.toNat Dop.d3).args5) :: SV.v (Value.int IntKind.i64 (@List.getD Dop.Ins b0.code t6.toNat Dop.d3).to_) :: SV.v (Value.int IntKind.i64 (@List.getD Dop.Ins b0.code t6.toNat Dop.d3).else_) :: @List.nil SV))) (List.take (15 : Nat) (List.drop (0 : Nat) (SV.v (Value.int IntKind.i64 (@List.getD Dop.Ins b1.code t6.toNat Dop.d3).kind) :: SV.v (Value.int IntKind.i64 (@List.getD Dop.Ins b1.code t6.toNat Dop.d3).op) :: SV.v (Value.int IntKind.i64 (@List.getD Dop.Ins b1.code t6.toNat Dop.d3).dst) :: SV.v (Value.int IntKind.i64 (@List.getD Dop.Ins b1.code t6.toNat Dop.d3).a) :: SV.v (Value.int IntKind.i64 (@List.getD Dop.Ins b1.code t6.toNat Dop.d3).b) :: SV.v (Value.int IntKind.i64 (@List.getD Dop.Ins b1.code t6.toNat Dop.d3).n) :: SV.v (Value.string (ByteArray.mk (Array.mk (@List.getD Dop.Ins b1.code t6.toNat Dop.d3).text))) :: SV.v (Value.int IntKind.i64 (@List.getD Dop.Ins b1.code t6.toNat Dop.d3).args0) :: SV.v (Value.int IntKind.i64 (@List.getD Dop.Ins b1.code t6.toNat Dop.d3).args1) :: SV.v (Value.int IntKind.i64 (@List.getD Dop.Ins b1.code t6.toNat Dop.d3).args2) :: SV.v (Value.int IntKind.i64 (@List.getD Dop.Ins b1.code t6.toNat Dop.d3).args3) :: SV.v (Value.int IntKind.i64 (@List.getD Dop.Ins b1.code t6.toNat Dop.d3).args4) :: SV.v (Value.int IntKind.i64 (@List.getD Dop.Ins b1.code t6.toNat Dop.d3).args5) :: SV.v (Value.int IntKind.i64 (@List.getD Dop.Ins b1.code t6.toNat Dop.d3).to_) :: SV.v (Value.int IntKind.i64 (@List.getD Dop.Ins b1.code t6.toNat Dop.d3).else_) :: @List.nil SV)))) (IntKind.i64.wrap (t6 + (1 : Int))) (b0) (b1)
    else none
    else none
   else
    (Tryd.m6 (b0) (b1)).bind fun y4 =>
     if (!y4.fst.fst == t5) = true then
      some ((false, ()), ())
     else
      (Tryd.m7 (b0)).bind fun y6 =>
       (Tryd.m7 (b1)).bind fun y7 =>
        if (!decide (y6.fst.fst = y7.fst.fst) == t5) = true then
         some ((false, ()), ())
        else
         if (andC none (room (128 : Nat) ((@List.nil Dop.Ins).length + b0.code.length))) = true then
         if (decide ((0 : Int) ≤ I (@List.nil Dop.Ins ++ b0.code).length ∧ I (@List.nil Dop.Ins ++ b0.code).length ≤ I (@List.nil Dop.Ins ++ b0.code).length ∧ I (@List.nil Dop.Ins ++ b0.code).length * (I (128 : Nat) + (1 : Int)) ≤ (140737488355328 : Int))) = true then
         Tryd.m3_14 (I (List.take (List.replicate (I (@List.nil Dop.Ins ++ b0.code).length).toNat Dop.d3).length (@List.nil Dop.Ins ++ b0.code) ++ List.drop (@List.nil Dop.Ins ++ b0.code).length (List.replicate (I (@List.nil Dop.Ins ++ b0.code).length).toNat Dop.d3)).length) ((0 : Int)) (b0) (b0.name) (b0.params) (b0.regs) (b0.frame) (@List.nil Dop.Ins ++ b0.code) (b0.name) (b0.params) (b0.regs) (b0.frame) (List.take (List.replicate (I (@List.nil Dop.Ins ++ b0.code).length).toNat Dop.d3).length (@List.nil Dop.Ins ++ b0.code) ++ List.drop (@List.nil Dop.Ins ++ b0.code).length (List.replicate (I (@List.nil Dop.Ins ++ b0.code).length).toNat Dop.d3))
         else none
         else none
  else
   (Tryd.m6 (b0) (b1)).bind fun y3 =>
    if (!y3.fst.fst == t5) = true then
     some ((false, ()), ())
    else
     (Tryd.m7 (b0)).bind fun y5 =>
      (Tryd.m7 (b1)).bind fun y6 =>
       if (!decide (y5.fst.fst = y6.fst.fst) == t5) = true then
        some ((false, ()), ())
       else
        if (andC none (room (128 : Nat) ((@List.nil Dop.Ins).length + b0.code.length))) = true then
        if (decide ((0 : Int) ≤ I (@List.nil Dop.Ins ++ b0.code).length ∧ I (@List.nil Dop.Ins ++ b0.code).length ≤ I (@List.nil Dop.Ins ++ b0.code).length ∧ I (@List.nil Dop.Ins ++ b0.code).length * (I (128 : Nat) + (1 : Int)) ≤ (140737488355328 : Int))) = true then
        Tryd.m3_14 (I (List.take (List.replicate (I (@List.nil Dop.Ins ++ b0.code).length).toNat Dop.d3).length (@List.nil Dop.Ins ++ b0.code) ++ List.drop (@List.nil Dop.Ins ++ b0.code).length (List.replicate (I (@List.nil Dop.Ins ++ b0.code).length).toNat Dop.d3)).length) ((0 : Int)) (b0) (b0.name) (b0.params) (b0.regs) (b0.frame) (@List.nil Dop.Ins ++ b0.code) (b0.name) (b0.params) (b0.regs) (b0.frame) (List.take (List.replicate (I (@List.nil Dop.Ins ++ b0.code).length).toNat Dop.d3).length (@List.nil Dop.Ins ++ b0.code) ++ List.drop (@List.nil Dop.Ins ++ b0.code).length (List.replicate (I (@List.nil Dop.Ins ++ b0.code).length).toNat Dop.d3))
        else none
        else none := Env.cut_eq' (E := Tryd.m3.E) (f0 := 3000) (c := 5) (q := ⟨[[0, 0, 0, 0, 0, 1, 0, 1, 1, 1], [0, 1, 0, 0, 0, 1, 0, 1, 1, 1], [0, 1, 0, 0, 1, 0, 1, 1, 1], [2, 0, 0, 1, 0, 1, 1, 1], [1, 0], [0, 1, 1, 1, 1]], [2, 3, 5, 6], 2, ⟨[.al 0 0, .al 1 0, .fd .bool, .fd (.int .i64)], [⟨0, 24, [.st 4], false⟩, ⟨1, 24, [.st 4], false⟩]⟩⟩) (by kernel_rfl) (((), (), t5, t6, ()), ((b0, ()), (b1, ()), ())) (by kernel_rfl) (by kernel_rfl)
theorem Tryd.m3_14_eq (t99 : Int) (t100 : Int) (b0 : En.Dop.Fnc) (b1_0 : List UInt8) (b1_1 : Int) (b1_2 : Int) (b1_3 : Int) (b1_4 : List (En.Dop.Ins)) (b2_0 : List UInt8) (b2_1 : Int) (b2_2 : Int) (b2_3 : Int) (b2_4 : List (En.Dop.Ins)) : Tryd.m3_14 t99 t100 b0 b1_0 b1_1 b1_2 b1_3 b1_4 b2_0 b2_1 b2_2 b2_3 b2_4 =
  if (decide (t100 < t99)) = true then
   if (decide ((0 : Int) ≤ t100 ∧ t100 < I b2_4.length)) = true then
   if (decide (t100.toNat < b2_4.length)) = true then
   if (decide ((0 : Int) ≤ t100 ∧ t100 < I b2_4.length)) = true then
   if (decide (t100.toNat < b2_4.length)) = true then
   Tryd.m3_14 (t99) (IntKind.i64.wrap (t100 + (1 : Int))) (b0) (b1_0) (b1_1) (b1_2) (b1_3) (b1_4) (b2_0) (b2_1) (b2_2) (b2_3) (b2_4.set t100.toNat (Dop.Ins.mk (@List.getD Dop.Ins b2_4 t100.toNat Dop.d3).kind (@List.getD Dop.Ins b2_4 t100.toNat Dop.d3).op (@List.getD Dop.Ins b2_4 t100.toNat Dop.d3).dst (@List.getD Dop.Ins b2_4 t100.toNat Dop.d3).a (@List.getD Dop.Ins b2_4 t100.toNat Dop.d3).b (IntKind.i64.wrap ((@List.getD Dop.Ins b2_4 t100.toNat Dop.d3).n + (1 : Int))) (@List.getD Dop.Ins b2_4 t100.toNat Dop.d3).text (@List.getD Dop.Ins b2_4 t100.toNat Dop.d3).args0 (@List.getD Dop.Ins b2_4 t100.toNat Dop.d3).args1 (@List.getD Dop.Ins b2_4 t100.toNat Dop.d3).args2 (@List.getD Dop.Ins b2_4 t100.toNat Dop.d3).args3 (@List.getD Dop.Ins b2_4 t100.toNat Dop.d3).args4 (@List.getD Dop.Ins b2_4 t100.toNat Dop.d3).args5 (@List.getD Dop.Ins b2_4 t100.toNat Dop.d3).to_ (@List.getD Dop.Ins b2_4 t100.toNat Dop.d3).else_))
   else none
   else none
   else none
   else none
  else
   (Tryd.m6 (Dop.Fnc.mk b1_0 b1_1 b1_2 b1_3 b1_4) (b0)).bind fun y3 =>
    if (y3.fst.fst) = true then
     if (decide (I b2_4.length = I b0.code.length)) = true then
      if (decide (b2_0 = b0.name)) = true then
       (Tryd.m5).bind fun y7 =>
        some ((y7.fst.fst, ()), ())
      else
       some ((false, ()), ())
     else
      some ((false, ()), ())
    else
     some ((false, ()), ()) := Env.cut_eq' (E := Tryd.m3.E) (f0 := 3000) (c := 14) (q := ⟨[[0, 0, 0, 0, 1, 0, 1, 1, 1, 1, 1, 1, 1, 1], [0, 1, 0, 0, 1, 0, 1, 1, 1, 1, 1, 1, 1, 1], [2, 0, 0, 1, 0, 1, 1, 1, 1, 1, 1, 1, 1], [1, 2], [0, 1, 1, 1, 1, 1, 1, 1, 1, 1]], [2, 7, 8, 99, 100], 3, ⟨[.al 0 0, .al 1 0, .al 2 0, .fd (.int .i64), .fd (.int .i64)], [⟨0, 24, [.st 4], false⟩, ⟨1, 24, [.fd .str, .fd (.int .i64), .fd (.int .i64), .fd (.int .i64), .own 3 30], false⟩, ⟨2, 24, [.fd .str, .fd (.int .i64), .fd (.int .i64), .fd (.int .i64), .own 3 30], false⟩]⟩⟩) (by kernel_rfl) (((), (), (), t99, t100, ()), ((b0, ()), (b1_0, b1_1, b1_2, b1_3, b1_4, ()), (b2_0, b2_1, b2_2, b2_3, b2_4, ()), ())) (by kernel_rfl) (by kernel_rfl)
end Go.Proofs
