/-
  Functions of the seat, lifted: plan, model, contract, equations. Written by a program (Lift) that ran the layer's evaluation; Lean checks each line.
-/
import Derived.Test.YtcifaokahhbflaaDoorLfB
import Derived.Test.YtcifaokahhbflaaDoorTab2
namespace Go.Proofs
open Go Go.En

def Tryd.m47.p : Pln := ⟨[], 0, ⟨[.fd (.int .i64)], []⟩, ⟨[.fd .str], []⟩, true, [], []⟩
noncomputable def Tryd.m47.E : Env En.Dop.D2 := envOf Tryd.prog 47 Tryd.tb [] Tryd.m47.p
theorem Tryd.m47.ok : plnOk En.Dop.D2 Tryd.prog 47 Tryd.m47.p = true := by kernel_rfl
noncomputable def Tryd.m47.c : Ctr En.Dop.D2 := ⟨47, Tryd.m47.p.bn, Tryd.m47.p.sp, Tryd.m47.p.rs, Tryd.m47.p.flat, .opt (Tryd.m47.E.run 3000 Tryd.m47.p.sp)⟩
theorem Tryd.m47.holds : Tryd.m47.c.Holds Tryd.prog := fun_ctr 3000 Tryd.tbOk hct_nil Tryd.m47.ok
noncomputable def Tryd.m47 (i : Int) : Option (Spec.D En.Dop.D2 ⟨[.fd .str], []⟩) := Tryd.m47.E.run 3000 Tryd.m47.p.sp ((i, ()), ())
theorem Tryd.m47_eq (i : Int) : Tryd.m47 i =
  if (decide (i < (10 : Int))) = true then
   if (inR (i + (1 : Int))) = true then
   if (decide ((0 : Int) ≤ i ∧ i ≤ i + (1 : Int) ∧ i + (1 : Int) ≤ I ((48 : UInt8) :: (49 : UInt8) :: (50 : UInt8) :: (51 : UInt8) :: (52 : UInt8) :: (53 : UInt8) :: (54 : UInt8) :: (55 : UInt8) :: (56 : UInt8) :: (57 : UInt8) :: (97 : UInt8) :: (98 : UInt8) :: (99 : UInt8) :: (100 : UInt8) :: (101 : UInt8) :: (102 : UInt8) :: (103 : UInt8) :: (104 : UInt8) :: (105 : UInt8) :: (106 : UInt8) :: (107 : UInt8) :: (108 : UInt8) :: (109 : UInt8) :: (110 : UInt8) :: (111 : UInt8) :: (112 : UInt8) :: (113 : UInt8) :: (114 : UInt8) :: (115 : UInt8) :: (116 : UInt8) :: (117 : UInt8) :: (118 : UInt8) :: (119 : UInt8) :: (120 : UInt8) :: (121 : UInt8) :: (122 : UInt8) :: @List.nil UInt8).length)) = true then
   some ((List.drop i.toNat (List.take (i + (1 : Int)).toNat ((48 : UInt8) :: (49 : UInt8) :: (50 : UInt8) :: (51 : UInt8) :: (52 : UInt8) :: (53 : UInt8) :: (54 : UInt8) :: (55 : UInt8) :: (56 : UInt8) :: (57 : UInt8) :: (97 : UInt8) :: (98 : UInt8) :: (99 : UInt8) :: (100 : UInt8) :: (101 : UInt8) :: (102 : UInt8) :: (103 : UInt8) :: (104 : UInt8) :: (105 : UInt8) :: (106 : UInt8) :: (107 : UInt8) :: (108 : UInt8) :: (109 : UInt8) :: (110 : UInt8) :: (111 : UInt8) :: (112 : UInt8) :: (113 : UInt8) :: (114 : UInt8) :: (115 : UInt8) :: (116 : UInt8) :: (117 : UInt8) :: (118 : UInt8) :: (119 : UInt8) :: (120 : UInt8) :: (121 : UInt8) :: (122 : UInt8) :: @List.nil UInt8)), ()), ())
   else none
   else none
  else
   if (inR (i * (2 : Int))) = true then
   if (inR (i * (2 : Int))) = true then
   if (inR (i * (2 : Int) + (2 : Int))) = true then
   if (decide ((0 : Int) ≤ i * (2 : Int) ∧ i * (2 : Int) ≤ i * (2 : Int) + (2 : Int) ∧ i * (2 : Int) + (2 : Int) ≤ I ((((48 : UInt8) :: (48 : UInt8) :: (48 : UInt8) :: (49 : UInt8) :: (48 : UInt8) :: (50 : UInt8) :: (48 : UInt8) :: (51 : UInt8) :: (48 : UInt8) :: (52 : UInt8) :: (48 : UInt8) :: (53 : UInt8) :: (48 : UInt8) :: (54 : UInt8) :: (48 : UInt8) :: (55 : UInt8) :: (48 : UInt8) :: (56 : UInt8) :: (48 : UInt8) :: (57 : UInt8) :: (49 : UInt8) :: (48 : UInt8) :: (49 : UInt8) :: (49 : UInt8) :: (49 : UInt8) :: (50 : UInt8) :: (49 : UInt8) :: (51 : UInt8) :: (49 : UInt8) :: (52 : UInt8) :: (49 : UInt8) :: (53 : UInt8) :: (49 : UInt8) :: (54 : UInt8) :: (49 : UInt8) :: (55 : UInt8) :: (49 : UInt8) :: (56 : UInt8) :: (49 : UInt8) :: (57 : UInt8) :: (50 : UInt8) :: (48 : UInt8) :: (50 : UInt8) :: (49 : UInt8) :: (50 : UInt8) :: (50 : UInt8) :: (50 : UInt8) :: (51 : UInt8) :: (50 : UInt8) :: (52 : UInt8) :: @List.nil UInt8).append ((50 : UInt8) :: (53 : UInt8) :: (50 : UInt8) :: (54 : UInt8) :: (50 : UInt8) :: (55 : UInt8) :: (50 : UInt8) :: (56 : UInt8) :: (50 : UInt8) :: (57 : UInt8) :: (51 : UInt8) :: (48 : UInt8) :: (51 : UInt8) :: (49 : UInt8) :: (51 : UInt8) :: (50 : UInt8) :: (51 : UInt8) :: (51 : UInt8) :: (51 : UInt8) :: (52 : UInt8) :: (51 : UInt8) :: (53 : UInt8) :: (51 : UInt8) :: (54 : UInt8) :: (51 : UInt8) :: (55 : UInt8) :: (51 : UInt8) :: (56 : UInt8) :: (51 : UInt8) :: (57 : UInt8) :: (52 : UInt8) :: (48 : UInt8) :: (52 : UInt8) :: (49 : UInt8) :: (52 : UInt8) :: (50 : UInt8) :: (52 : UInt8) :: (51 : UInt8) :: (52 : UInt8) :: (52 : UInt8) :: (52 : UInt8) :: (53 : UInt8) :: (52 : UInt8) :: (54 : UInt8) :: (52 : UInt8) :: (55 : UInt8) :: (52 : UInt8) :: (56 : UInt8) :: (52 : UInt8) :: (57 : UInt8) :: @List.nil UInt8)).append (((53 : UInt8) :: (48 : UInt8) :: (53 : UInt8) :: (49 : UInt8) :: (53 : UInt8) :: (50 : UInt8) :: (53 : UInt8) :: (51 : UInt8) :: (53 : UInt8) :: (52 : UInt8) :: (53 : UInt8) :: (53 : UInt8) :: (53 : UInt8) :: (54 : UInt8) :: (53 : UInt8) :: (55 : UInt8) :: (53 : UInt8) :: (56 : UInt8) :: (53 : UInt8) :: (57 : UInt8) :: (54 : UInt8) :: (48 : UInt8) :: (54 : UInt8) :: (49 : UInt8) :: (54 : UInt8) :: (50 : UInt8) :: (54 : UInt8) :: (51 : UInt8) :: (54 : UInt8) :: (52 : UInt8) :: (54 : UInt8) :: (53 : UInt8) :: (54 : UInt8) :: (54 : UInt8) :: (54 : UInt8) :: (55 : UInt8) :: (54 : UInt8) :: (56 : UInt8) :: (54 : UInt8) :: (57 : UInt8) :: (55 : UInt8) :: (48 : UInt8) :: (55 : UInt8) :: (49 : UInt8) :: (55 : UInt8) :: (50 : UInt8) :: (55 : UInt8) :: (51 : UInt8) :: (55 : UInt8) :: (52 : UInt8) :: @List.nil UInt8).append ((55 : UInt8) :: (53 : UInt8) :: (55 : UInt8) :: (54 : UInt8) :: (55 : UInt8) :: (55 : UInt8) :: (55 : UInt8) :: (56 : UInt8) :: (55 : UInt8) :: (57 : UInt8) :: (56 : UInt8) :: (48 : UInt8) :: (56 : UInt8) :: (49 : UInt8) :: (56 : UInt8) :: (50 : UInt8) :: (56 : UInt8) :: (51 : UInt8) :: (56 : UInt8) :: (52 : UInt8) :: (56 : UInt8) :: (53 : UInt8) :: (56 : UInt8) :: (54 : UInt8) :: (56 : UInt8) :: (55 : UInt8) :: (56 : UInt8) :: (56 : UInt8) :: (56 : UInt8) :: (57 : UInt8) :: (57 : UInt8) :: (48 : UInt8) :: (57 : UInt8) :: (49 : UInt8) :: (57 : UInt8) :: (50 : UInt8) :: (57 : UInt8) :: (51 : UInt8) :: (57 : UInt8) :: (52 : UInt8) :: (57 : UInt8) :: (53 : UInt8) :: (57 : UInt8) :: (54 : UInt8) :: (57 : UInt8) :: (55 : UInt8) :: (57 : UInt8) :: (56 : UInt8) :: (57 : UInt8) :: (57 : UInt8) :: @List.nil UInt8))).length)) = true then
   some ((List.drop (i * (2 : Int)).toNat (List.take (i * (2 : Int) + (2 : Int)).toNat ((((48 : UInt8) :: (48 : UInt8) :: (48 : UInt8) :: (49 : UInt8) :: (48 : UInt8) :: (50 : UInt8) :: (48 : UInt8) :: (51 : UInt8) :: (48 : UInt8) :: (52 : UInt8) :: (48 : UInt8) :: (53 : UInt8) :: (48 : UInt8) :: (54 : UInt8) :: (48 : UInt8) :: (55 : UInt8) :: (48 : UInt8) :: (56 : UInt8) :: (48 : UInt8) :: (57 : UInt8) :: (49 : UInt8) :: (48 : UInt8) :: (49 : UInt8) :: (49 : UInt8) :: (49 : UInt8) :: (50 : UInt8) :: (49 : UInt8) :: (51 : UInt8) :: (49 : UInt8) :: (52 : UInt8) :: (49 : UInt8) :: (53 : UInt8) :: (49 : UInt8) :: (54 : UInt8) :: (49 : UInt8) :: (55 : UInt8) :: (49 : UInt8) :: (56 : UInt8) :: (49 : UInt8) :: (57 : UInt8) :: (50 : UInt8) :: (48 : UInt8) :: (50 : UInt8) :: (49 : UInt8) :: (50 : UInt8) :: (50 : UInt8) :: (50 : UInt8) :: (51 : UInt8) :: (50 : UInt8) :: (52 : UInt8) :: @List.nil UInt8).append ((50 : UInt8) :: (53 : UInt8) :: (50 : UInt8) :: (54 : UInt8) :: (50 : UInt8) :: (55 : UInt8) :: (50 : UInt8) :: (56 : UInt8) :: (50 : UInt8) :: (57 : UInt8) :: (51 : UInt8) :: (48 : UInt8) :: (51 : UInt8) :: (49 : UInt8) :: (51 : UInt8) :: (50 : UInt8) :: (51 : UInt8) :: (51 : UInt8) :: (51 : UInt8) :: (52 : UInt8) :: (51 : UInt8) :: (53 : UInt8) :: (51 : UInt8) :: (54 : UInt8) :: (51 : UInt8) :: (55 : UInt8) :: (51 : UInt8) :: (56 : UInt8) :: (51 : UInt8) :: (57 : UInt8) :: (52 : UInt8) :: (48 : UInt8) :: (52 : UInt8) :: (49 : UInt8) :: (52 : UInt8) :: (50 : UInt8) :: (52 : UInt8) :: (51 : UInt8) :: (52 : UInt8) :: (52 : UInt8) :: (52 : UInt8) :: (53 : UInt8) :: (52 : UInt8) :: (54 : UInt8) :: (52 : UInt8) :: (55 : UInt8) :: (52 : UInt8) :: (56 : UInt8) :: (52 : UInt8) :: (57 : UInt8) :: @List.nil UInt8)).append (((53 : UInt8) :: (48 : UInt8) :: (53 : UInt8) :: (49 : UInt8) :: (53 : UInt8) :: (50 : UInt8) :: (53 : UInt8) :: (51 : UInt8) :: (53 : UInt8) :: (52 : UInt8) :: (53 : UInt8) :: (53 : UInt8) :: (53 : UInt8) :: (54 : UInt8) :: (53 : UInt8) :: (55 : UInt8) :: (53 : UInt8) :: (56 : UInt8) :: (53 : UInt8) :: (57 : UInt8) :: (54 : UInt8) :: (48 : UInt8) :: (54 : UInt8) :: (49 : UInt8) :: (54 : UInt8) :: (50 : UInt8) :: (54 : UInt8) :: (51 : UInt8) :: (54 : UInt8) :: (52 : UInt8) :: (54 : UInt8) :: (53 : UInt8) :: (54 : UInt8) :: (54 : UInt8) :: (54 : UInt8) :: (55 : UInt8) :: (54 : UInt8) :: (56 : UInt8) :: (54 : UInt8) :: (57 : UInt8) :: (55 : UInt8) :: (48 : UInt8) :: (55 : UInt8) :: (49 : UInt8) :: (55 : UInt8) :: (50 : UInt8) :: (55 : UInt8) :: (51 : UInt8) :: (55 : UInt8) :: (52 : UInt8) :: @List.nil UInt8).append ((55 : UInt8) :: (53 : UInt8) :: (55 : UInt8) :: (54 : UInt8) :: (55 : UInt8) :: (55 : UInt8) :: (55 : UInt8) :: (56 : UInt8) :: (55 : UInt8) :: (57 : UInt8) :: (56 : UInt8) :: (48 : UInt8) :: (56 : UInt8) :: (49 : UInt8) :: (56 : UInt8) :: (50 : UInt8) :: (56 : UInt8) :: (51 : UInt8) :: (56 : UInt8) :: (52 : UInt8) :: (56 : UInt8) :: (53 : UInt8) :: (56 : UInt8) :: (54 : UInt8) :: (56 : UInt8) :: (55 : UInt8) :: (56 : UInt8) :: (56 : UInt8) :: (56 : UInt8) :: (57 : UInt8) :: (57 : UInt8) :: (48 : UInt8) :: (57 : UInt8) :: (49 : UInt8) :: (57 : UInt8) :: (50 : UInt8) :: (57 : UInt8) :: (51 : UInt8) :: (57 : UInt8) :: (52 : UInt8) :: (57 : UInt8) :: (53 : UInt8) :: (57 : UInt8) :: (54 : UInt8) :: (57 : UInt8) :: (55 : UInt8) :: (57 : UInt8) :: (56 : UInt8) :: (57 : UInt8) :: (57 : UInt8) :: @List.nil UInt8)))), ()), ())
   else none
   else none
   else none
   else none := by kernel_rfl

def Tryd.m57.p : Pln := ⟨[], 0, ⟨[.fd (.int .u64)], []⟩, ⟨[.fd (.int .i64)], []⟩, true, [], []⟩
noncomputable def Tryd.m57.E : Env En.Dop.D2 := envOf Tryd.prog 57 Tryd.tb [] Tryd.m57.p
theorem Tryd.m57.ok : plnOk En.Dop.D2 Tryd.prog 57 Tryd.m57.p = true := by kernel_rfl
noncomputable def Tryd.m57.c : Ctr En.Dop.D2 := ⟨57, Tryd.m57.p.bn, Tryd.m57.p.sp, Tryd.m57.p.rs, Tryd.m57.p.flat, .opt (Tryd.m57.E.run 3000 Tryd.m57.p.sp)⟩
theorem Tryd.m57.holds : Tryd.m57.c.Holds Tryd.prog := fun_ctr 3000 Tryd.tbOk hct_nil Tryd.m57.ok
noncomputable def Tryd.m57 (x : Int) : Option (Spec.D En.Dop.D2 ⟨[.fd (.int .i64)], []⟩) := Tryd.m57.E.run 3000 Tryd.m57.p.sp ((x, ()), ())

def Tryd.m56.p : Pln := ⟨[], 0, ⟨[.fd (.int .i64)], []⟩, ⟨[.fd (.int .i64)], []⟩, true, [], []⟩
noncomputable def Tryd.m56.E : Env En.Dop.D2 := envOf Tryd.prog 56 Tryd.tb [] Tryd.m56.p
theorem Tryd.m56.ok : plnOk En.Dop.D2 Tryd.prog 56 Tryd.m56.p = true := by kernel_rfl
noncomputable def Tryd.m56.c : Ctr En.Dop.D2 := ⟨56, Tryd.m56.p.bn, Tryd.m56.p.sp, Tryd.m56.p.rs, Tryd.m56.p.flat, .opt (Tryd.m56.E.run 3000 Tryd.m56.p.sp)⟩
theorem Tryd.m56.holds : Tryd.m56.c.Holds Tryd.prog := fun_ctr 3000 Tryd.tbOk hct_nil Tryd.m56.ok
noncomputable def Tryd.m56 (x : Int) : Option (Spec.D En.Dop.D2 ⟨[.fd (.int .i64)], []⟩) := Tryd.m56.E.run 3000 Tryd.m56.p.sp ((x, ()), ())
theorem Tryd.m56_eq (x : Int) : Tryd.m56 x =
  if (inR (x * (78913 : Int))) = true then
  if (decide ((0 : Int) ≤ (18 : Int) ∧ (18 : Int) ≤ I IntKind.i64.bits)) = true then
  some ((x * (78913 : Int) / (2 : Int) ^ Int.toNat (18 : Int), ()), ())
  else none
  else none := by kernel_rfl

def Tryd.m58.p : Pln := ⟨[], 0, ⟨[.fd .bool], []⟩, ⟨[.fd (.int .i64)], []⟩, true, [], []⟩
noncomputable def Tryd.m58.E : Env En.Dop.D2 := envOf Tryd.prog 58 Tryd.tb [] Tryd.m58.p
theorem Tryd.m58.ok : plnOk En.Dop.D2 Tryd.prog 58 Tryd.m58.p = true := by kernel_rfl
noncomputable def Tryd.m58.c : Ctr En.Dop.D2 := ⟨58, Tryd.m58.p.bn, Tryd.m58.p.sp, Tryd.m58.p.rs, Tryd.m58.p.flat, .opt (Tryd.m58.E.run 3000 Tryd.m58.p.sp)⟩
theorem Tryd.m58.holds : Tryd.m58.c.Holds Tryd.prog := fun_ctr 3000 Tryd.tbOk hct_nil Tryd.m58.ok
noncomputable def Tryd.m58 (b : Bool) : Option (Spec.D En.Dop.D2 ⟨[.fd (.int .i64)], []⟩) := Tryd.m58.E.run 3000 Tryd.m58.p.sp ((b, ()), ())
theorem Tryd.m58_eq (b : Bool) : Tryd.m58 b =
  if (b) = true then
   some (((1 : Int), ()), ())
  else
   some (((0 : Int), ()), ()) := by kernel_rfl

def Tryd.m48.p : Pln := ⟨[], 0, ⟨[.fd (.int .u64)], []⟩, ⟨[], []⟩, true, [], []⟩
noncomputable def Tryd.m48.E : Env En.Dop.D2 := envOf Tryd.prog 48 Tryd.tb [Tryd.m57.c, Tryd.m56.c, Tryd.m58.c] Tryd.m48.p
theorem Tryd.m48.ok : plnOk En.Dop.D2 Tryd.prog 48 Tryd.m48.p = true := by kernel_rfl
noncomputable def Tryd.m48.c : Ctr En.Dop.D2 := ⟨48, Tryd.m48.p.bn, Tryd.m48.p.sp, Tryd.m48.p.rs, Tryd.m48.p.flat, .opt (Tryd.m48.E.run 3000 Tryd.m48.p.sp)⟩
theorem Tryd.m48.holds : Tryd.m48.c.Holds Tryd.prog := fun_ctr 3000 Tryd.tbOk (hct_cons Tryd.m57.holds (hct_cons Tryd.m56.holds (hct_cons Tryd.m58.holds hct_nil))) Tryd.m48.ok
noncomputable def Tryd.m48 (d : Int) : Option (Spec.D En.Dop.D2 ⟨[], []⟩) := Tryd.m48.E.run 3000 Tryd.m48.p.sp ((d, ()), ())
theorem Tryd.m48_eq (d : Int) : Tryd.m48 d =
  (Tryd.m57 (d)).bind fun y2 =>
   (Tryd.m56 (y2.fst.fst)).bind fun y3 =>
    none := by kernel_rfl

def Tryd.m49.p : Pln := ⟨[(1, ⟨[[0, 0, 0, 0, 0, 0, 1], [0, 1, 0, 0, 0, 0, 1], [0, 1, 0, 0, 0, 1], [2, 0, 0, 0, 1], [1, 0], [0, 1, 1]], [0, 1, 4], 0, ⟨[.fd (.sl 3), .fd (.int .u64), .fd (.int .i64)], []⟩⟩)], 0, ⟨[.fd (.sl 3), .fd (.int .u64)], []⟩, ⟨[], []⟩, true, [(7, ⟨[(0, true), (1, true), (2, true), (3, true), (4, true), (5, true), (6, true), (7, true), (8, true), (9, true), (10, true), (11, false)], [12, 13, 14], [0, 0, 2, 0, 0, 16, 0, 64, 192, 0, 512, 455, 2503, 8191, 16383], false⟩), (8, ⟨[(0, true), (1, true), (2, true), (3, true), (4, true), (5, true), (6, true), (7, true), (8, true), (9, true), (10, true), (11, false)], [12, 13, 14], [0, 0, 2, 0, 0, 16, 0, 64, 192, 0, 512, 455, 2503, 8191, 16383], false⟩), (9, ⟨[(0, true), (1, true), (2, true), (3, true), (4, true), (5, true), (6, true), (7, true), (8, true), (9, true), (10, true), (11, false)], [12, 13, 14], [0, 0, 2, 0, 0, 16, 0, 64, 192, 0, 512, 455, 2503, 8191, 16383], false⟩), (10, ⟨[(0, true), (1, true), (2, true), (3, true), (4, true), (5, true), (6, true), (7, true), (8, true), (9, true), (10, true), (11, false)], [12, 13, 14], [0, 0, 2, 0, 0, 16, 0, 64, 192, 0, 512, 455, 2503, 8191, 16383], false⟩), (17, ⟨[(0, true), (1, true), (2, true), (3, true), (4, true), (5, true), (6, true), (7, true), (8, true), (9, true), (10, true), (11, false)], [12, 13, 14], [0, 0, 2, 0, 0, 16, 0, 64, 192, 0, 512, 455, 2503, 8191, 16383], false⟩), (18, ⟨[(0, true), (1, true), (2, true), (3, true), (4, true), (5, true), (6, true), (7, true), (8, true), (9, true), (10, true), (11, false)], [12, 13, 14], [0, 0, 2, 0, 0, 16, 0, 64, 192, 0, 512, 455, 2503, 8191, 16383], false⟩), (23, ⟨[(0, true), (1, true), (2, true), (3, true), (4, true), (5, true), (6, true), (7, true), (8, true), (9, true), (10, true), (11, false)], [12, 13, 14], [0, 0, 2, 0, 0, 16, 0, 64, 192, 0, 512, 455, 2503, 8191, 16383], false⟩)], []⟩
noncomputable def Tryd.m49.E : Env En.Dop.D2 := envOf Tryd.prog 49 Tryd.tb [] Tryd.m49.p
theorem Tryd.m49.ok : plnOk En.Dop.D2 Tryd.prog 49 Tryd.m49.p = true := by kernel_rfl
noncomputable def Tryd.m49.c : Ctr En.Dop.D2 := ⟨49, Tryd.m49.p.bn, Tryd.m49.p.sp, Tryd.m49.p.rs, Tryd.m49.p.flat, .opt (Tryd.m49.E.run 3000 Tryd.m49.p.sp)⟩
theorem Tryd.m49.holds : Tryd.m49.c.Holds Tryd.prog := fun_ctr 3000 Tryd.tbOk hct_nil Tryd.m49.ok
noncomputable def Tryd.m49 (o : List (Int)) (t1 : Int) : Option (Spec.D En.Dop.D2 ⟨[], []⟩) := Tryd.m49.E.run 3000 Tryd.m49.p.sp ((o, t1, ()), ())
noncomputable def Tryd.m49_1 (o : List (Int)) (t1 : Int) (t4 : Int) : Option (Spec.D En.Dop.D2 ⟨[], []⟩) := Tryd.m49.E.cut 3000 1 ((o, t1, t4, ()), ())

def Tryd.m59.p : Pln := ⟨[], 0, ⟨[.fd (.int .i64)], []⟩, ⟨[.fd .bool], []⟩, true, [], []⟩
noncomputable def Tryd.m59.E : Env En.Dop.D2 := envOf Tryd.prog 59 Tryd.tb [] Tryd.m59.p
theorem Tryd.m59.ok : plnOk En.Dop.D2 Tryd.prog 59 Tryd.m59.p = true := by kernel_rfl
noncomputable def Tryd.m59.c : Ctr En.Dop.D2 := ⟨59, Tryd.m59.p.bn, Tryd.m59.p.sp, Tryd.m59.p.rs, Tryd.m59.p.flat, .opt (Tryd.m59.E.run 3000 Tryd.m59.p.sp)⟩
theorem Tryd.m59.holds : Tryd.m59.c.Holds Tryd.prog := fun_ctr 3000 Tryd.tbOk hct_nil Tryd.m59.ok
noncomputable def Tryd.m59 (x : Int) : Option (Spec.D En.Dop.D2 ⟨[.fd .bool], []⟩) := Tryd.m59.E.run 3000 Tryd.m59.p.sp ((x, ()), ())
theorem Tryd.m59_eq (x : Int) : Tryd.m59 x =
  if (inR (x - (1 : Int))) = true then
  some ((decide (bits BinOp.and IntKind.i64 x (x - (1 : Int)) = (0 : Int)), ()), ())
  else none := by kernel_rfl
end Go.Proofs
