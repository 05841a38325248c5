/-
  Functions of the seat, lifted: plan, model, contract, equations. Written by a program (Lift) that ran the layer's evaluation; Lean checks each line.
-/
import Derived.Test.YtfonahhlkanabaaEn14
import Derived.Test.YtfonahhlkanabaaTab2
import Derived.Test.YtfonahhlkanabaaLfA
namespace Go.Proofs
open Go Go.En

def Try.m5.p : Pln := ⟨[(6, ⟨[[0, 0, 0, 0, 1, 0, 1, 1, 1, 1], [0, 1, 0, 0, 1, 0, 1, 1, 1, 1], [2, 0, 0, 1, 0, 1, 1, 1, 1], [1, 0], [0, 1, 1, 1, 1, 1]], [1, 2, 3, 4, 9, 29, 30, 31], 2, ⟨[.fd (.int .u8), .fd (.sl 2), .fd (.int .i64), .al 0 0, .al 1 0, .fd (.sl 5), .fd (.int .i64), .fd (.int .i64)], [⟨0, 25, [.st 6], false⟩, ⟨1, 25, [.fd (.sl 4), .own 5 41, .fd (.int .i64)], false⟩]⟩⟩)], 0, ⟨[.st 6, .fd (.int .u8), .fd (.sl 2), .fd (.int .i64)], []⟩, ⟨[.fd .bool], []⟩, true, [(12, ⟨[(0, false), (1, true), (2, false), (3, true), (4, true), (5, false), (6, true), (7, false), (8, true), (9, true)], [10, 11, 12], [0, 0, 2, 0, 14, 31, 0, 64, 0, 448, 1023, 2047, 4095], false⟩), (13, ⟨[(0, false), (1, false), (2, false), (3, false), (4, true), (5, true), (6, false), (7, true), (8, true), (9, false), (10, false), (11, true), (12, true), (13, false), (14, false), (15, true), (16, true), (17, false), (18, true), (19, true)], [], [0, 1, 0, 7, 15, 31, 63, 63, 63, 511, 63, 63, 63, 8191, 16383, 32767, 65535, 131071, 262143, 524287], true⟩)], []⟩
noncomputable def Try.m5.E : Env En.Dop.D7 := envOf Try.prog 5 Try.tb [Try.m7.c, Try.m8.c, Try.m11.c, Try.m15.c, Try.m16.c] Try.m5.p
theorem Try.m5.ok : plnOk En.Dop.D7 Try.prog 5 Try.m5.p = true := by kernel_rfl
noncomputable def Try.m5.c : Ctr En.Dop.D7 := ⟨5, Try.m5.p.bn, Try.m5.p.sp, Try.m5.p.rs, Try.m5.p.flat, .opt (Try.m5.E.run 3000 Try.m5.p.sp)⟩
theorem Try.m5.holds : Try.m5.c.Holds Try.prog := fun_ctr 3000 Try.tbOk (hct_cons Try.m7.holds (hct_cons Try.m8.holds (hct_cons Try.m11.holds (hct_cons Try.m15.holds (hct_cons Try.m16.holds hct_nil))))) Try.m5.ok
noncomputable def Try.m5 (o : En.Dop.Unt) (t1 : Int) (t2 : List (Int)) (t3 : Int) : Option (Spec.D En.Dop.D7 ⟨[.fd .bool], []⟩) := Try.m5.E.run 3000 Try.m5.p.sp ((o, t1, t2, t3, ()), ())
noncomputable def Try.m5_6 (t1 : Int) (t2 : List (Int)) (t3 : Int) (t29 : List (En.Dop.Glb)) (t30 : Int) (t31 : Int) (b0 : En.Dop.Unt) (b1_0 : List (En.Dop.Fnc)) (b1_1 : List (En.Dop.Glb)) (b1_2 : Int) : Option (Spec.D En.Dop.D7 ⟨[.fd .bool], []⟩) := Try.m5.E.cut 3000 6 ((t1, t2, t3, (), (), t29, t30, t31, ()), ((b0, ()), (b1_0, b1_1, b1_2, ()), ()))
theorem Try.m5_eq (o : En.Dop.Unt) (t1 : Int) (t2 : List (Int)) (t3 : Int) : Try.m5 o t1 t2 t3 =
  (Try.m7 (o)).bind fun y2 =>
   if (!y2.fst.fst) = true then
    (Try.m8).bind fun y4 =>
     some ((y4.fst.fst, ()), ())
   else
    if (decide ((200 : Int) < I t2.length)) = true then
     (Try.m8).bind fun y5 =>
      some ((y5.fst.fst, ()), ())
    else
     if (decide ((5000 : Int) < t3)) = true then
      (Try.m8).bind fun y6 =>
       some ((y6.fst.fst, ()), ())
     else
      Try.m5_6 (t1) (t2) (t3) (o.globals) (I o.globals.length) ((0 : Int)) (o) (o.funcs) (@List.nil Dop.Glb) (o.top) := by kernel_rfl
theorem Try.m5_6_eq (t1 : Int) (t2 : List (Int)) (t3 : Int) (t29 : List (En.Dop.Glb)) (t30 : Int) (t31 : Int) (b0 : En.Dop.Unt) (b1_0 : List (En.Dop.Fnc)) (b1_1 : List (En.Dop.Glb)) (b1_2 : Int) : Try.m5_6 t1 t2 t3 t29 t30 t31 b0 b1_0 b1_1 b1_2 =
  if (decide (t31 < t30)) = true then
   if (decide ((0 : Int) ≤ t31 ∧ t31 < I t29.length)) = true then
   if (decide ((@List.getD Dop.Glb t29 t31.toNat Dop.d5).name.length + ((120 : UInt8) :: @List.nil UInt8).length ≤ (9223372036854775807 : Nat))) = true then
   if (andC none (room (40 : Nat) (b1_1.length + (Dop.Glb.mk ((@List.getD Dop.Glb t29 t31.toNat Dop.d5).name ++ (120 : UInt8) :: @List.nil UInt8) (@List.getD Dop.Glb t29 t31.toNat Dop.d5).at_ (@List.getD Dop.Glb t29 t31.toNat Dop.d5).size (@List.getD Dop.Glb t29 t31.toNat Dop.d5).init_ :: @List.nil Dop.Glb).length))) = true then
   if (inR (t31 + (1 : Int))) = true then
   Try.m5_6 (t1) (t2) (t3) (t29) (t30) (t31 + (1 : Int)) (b0) (b1_0) (b1_1 ++ Dop.Glb.mk ((@List.getD Dop.Glb t29 t31.toNat Dop.d5).name ++ (120 : UInt8) :: @List.nil UInt8) (@List.getD Dop.Glb t29 t31.toNat Dop.d5).at_ (@List.getD Dop.Glb t29 t31.toNat Dop.d5).size (@List.getD Dop.Glb t29 t31.toNat Dop.d5).init_ :: @List.nil Dop.Glb) (b1_2)
   else none
   else none
   else none
   else none
  else
   if (inR t1) = true then
   if (inR (I b0.funcs.length + (1 : Int))) = true then
   if (decide (I b0.funcs.length + (1 : Int) ≠ (0 : Int))) = true then
   if (decide ((0 : Int) ≤ t1.tmod (I b0.funcs.length + (1 : Int)) ∧ t1.tmod (I b0.funcs.length + (1 : Int)) ≤ I b0.funcs.length ∧ I b0.funcs.length ≤ I b0.funcs.length)) = true then
   if (andC none (room (64 : Nat) (List.drop (t1.tmod (I b0.funcs.length + (1 : Int))).toNat (List.take (I b0.funcs.length).toNat b0.funcs)).length)) = true then
   if (decide ((List.drop (t1.tmod (I b0.funcs.length + (1 : Int))).toNat (List.take (I b0.funcs.length).toNat b0.funcs)).length = (0 : Nat))) = true then
    if (decide ((0 : Int) ≤ (0 : Int) ∧ (0 : Int) ≤ t1.tmod (I b0.funcs.length + (1 : Int)) ∧ t1.tmod (I b0.funcs.length + (1 : Int)) ≤ I b0.funcs.length)) = true then
    if (andC none (room (64 : Nat) ((@List.nil Dop.Fnc).length + (List.drop (Int.toNat (0 : Int)) (List.take (t1.tmod (I b0.funcs.length + (1 : Int))).toNat b0.funcs)).length))) = true then
    (Try.m11 (b0)).bind fun y4 =>
     (Try.m11 (Dop.Unt.mk (@List.nil Dop.Fnc ++ List.drop (Int.toNat (0 : Int)) (List.take (t1.tmod (I b0.funcs.length + (1 : Int))).toNat b0.funcs)) b1_1 b1_2)).bind fun y5 =>
      if (y4.fst.fst == y5.fst.fst) = true then
       (Try.m15 (b0) (t2) (t3)).bind fun y7 =>
        (Try.m15 (Dop.Unt.mk (@List.nil Dop.Fnc ++ List.drop (Int.toNat (0 : Int)) (List.take (t1.tmod (I b0.funcs.length + (1 : Int))).toNat b0.funcs)) b1_1 b1_2) (t2) (t3)).bind fun y8 =>
         (Try.m16 (y7.fst.fst) (y8.fst.fst)).bind fun y9 =>
          if (y9.fst.fst) = true then
           (Try.m8).bind fun y11 =>
            some ((y11.fst.fst, ()), ())
          else
           some ((false, ()), ())
      else
       some ((false, ()), ())
    else none
    else none
   else
    if (decide ((0 : Int) ≤ (0 : Int) ∧ (0 : Int) ≤ t1.tmod (I b0.funcs.length + (1 : Int)) ∧ t1.tmod (I b0.funcs.length + (1 : Int)) ≤ I b0.funcs.length)) = true then
    if (andC none (room (64 : Nat) ((List.drop (t1.tmod (I b0.funcs.length + (1 : Int))).toNat (List.take (I b0.funcs.length).toNat b0.funcs)).length + (List.drop (Int.toNat (0 : Int)) (List.take (t1.tmod (I b0.funcs.length + (1 : Int))).toNat b0.funcs)).length))) = true then
    (Try.m11 (b0)).bind fun y4 =>
     (Try.m11 (Dop.Unt.mk (List.drop (t1.tmod (I b0.funcs.length + (1 : Int))).toNat (List.take (I b0.funcs.length).toNat b0.funcs) ++ List.drop (Int.toNat (0 : Int)) (List.take (t1.tmod (I b0.funcs.length + (1 : Int))).toNat b0.funcs)) b1_1 b1_2)).bind fun y5 =>
      if (y4.fst.fst == y5.fst.fst) = true then
       (Try.m15 (b0) (t2) (t3)).bind fun y7 =>
        (Try.m15 (Dop.Unt.mk (List.drop (t1.tmod (I b0.funcs.length + (1 : Int))).toNat (List.take (I b0.funcs.length).toNat b0.funcs) ++ List.drop (Int.toNat (0 : Int)) (List.take (t1.tmod (I b0.funcs.length + (1 : Int))).toNat b0.funcs)) b1_1 b1_2) (t2) (t3)).bind fun y8 =>
         (Try.m16 (y7.fst.fst) (y8.fst.fst)).bind fun y9 =>
          if (y9.fst.fst) = true then
           (Try.m8).bind fun y11 =>
            some ((y11.fst.fst, ()), ())
          else
           some ((false, ()), ())
      else
       some ((false, ()), ())
    else none
    else none
   else none
   else none
   else none
   else none
   else none := Env.cut_eq' (E := Try.m5.E) (f0 := 3000) (c := 6) (q := ⟨[[0, 0, 0, 0, 1, 0, 1, 1, 1, 1], [0, 1, 0, 0, 1, 0, 1, 1, 1, 1], [2, 0, 0, 1, 0, 1, 1, 1, 1], [1, 0], [0, 1, 1, 1, 1, 1]], [1, 2, 3, 4, 9, 29, 30, 31], 2, ⟨[.fd (.int .u8), .fd (.sl 2), .fd (.int .i64), .al 0 0, .al 1 0, .fd (.sl 5), .fd (.int .i64), .fd (.int .i64)], [⟨0, 25, [.st 6], false⟩, ⟨1, 25, [.fd (.sl 4), .own 5 41, .fd (.int .i64)], false⟩]⟩⟩) (by kernel_rfl) ((t1, t2, t3, (), (), t29, t30, t31, ()), ((b0, ()), (b1_0, b1_1, b1_2, ()), ())) (by kernel_rfl) (by kernel_rfl)
end Go.Proofs
