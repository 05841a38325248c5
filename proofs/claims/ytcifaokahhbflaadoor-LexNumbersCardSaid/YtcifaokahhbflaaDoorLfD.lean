/-
  Functions of the seat, lifted: plan, model, contract, equations. Written by a program (Lift) that ran the layer's evaluation; Lean checks each line.
-/
import Derived.Test.YtcifaokahhbflaaDoorLfC
import Derived.Test.YtcifaokahhbflaaDoorLfW
namespace Go.Proofs
open Go Go.En

def Tryd.m50.p : Pln := ⟨[(3, ⟨[[0, 0, 1, 1], [0, 1, 1, 1]], [0, 1, 2, 3, 4, 10, 11], 0, ⟨[.fd (.sl 3), .fd (.int .u64), .fd (.int .i64), .fd .bool, .fd .bool, .own 3 5, .fd .str], []⟩⟩), (11, ⟨[[0, 0, 0, 0, 0, 0, 1, 1, 1, 0, 1, 0, 1, 1, 1, 1, 1], [0, 1, 0, 0, 0, 0, 1, 1, 1, 0, 1, 0, 1, 1, 1, 1, 1], [0, 1, 0, 0, 0, 1, 1, 1, 0, 1, 0, 1, 1, 1, 1, 1], [2, 0, 0, 0, 1, 1, 1, 0, 1, 0, 1, 1, 1, 1, 1], [1, 0], [0, 1, 1, 1, 1, 0, 1, 0, 1, 1, 1, 1, 1], [0, 1, 1, 1, 1, 1, 1]], [0, 1, 3, 4, 10, 11, 12, 13, 14, 15, 16], 1, ⟨[.fd (.sl 3), .fd (.int .u64), .fd .bool, .fd .bool, .own 3 5, .fd .str, .al 0 0, .fd (.int .i64), .fd (.int .u64), .fd (.int .u64), .fd (.int .u64)], [⟨0, 75, [.st 5], false⟩]⟩⟩), (18, ⟨[[0, 0, 0, 0, 0, 0, 1, 1, 1, 0, 1, 1, 1, 1, 1], [0, 1, 0, 0, 0, 0, 1, 1, 1, 0, 1, 1, 1, 1, 1], [0, 1, 0, 0, 0, 1, 1, 1, 0, 1, 1, 1, 1, 1], [2, 0, 0, 0, 1, 1, 1, 0, 1, 1, 1, 1, 1], [1, 2], [0, 1, 1, 1, 1, 0, 1, 1, 1, 1, 1], [0, 1, 1, 1, 1, 1, 1]], [0, 1, 3, 4, 10, 11, 12, 13, 17], 1, ⟨[.fd (.sl 3), .fd (.int .u64), .fd .bool, .fd .bool, .own 3 5, .fd .str, .al 0 0, .fd (.int .i64), .fd (.int .u64)], [⟨0, 75, [.st 5], false⟩]⟩⟩)], 0, ⟨[.fd (.sl 3), .fd (.int .u64), .fd (.int .i64), .fd .bool, .fd .bool], []⟩, ⟨[.own 3 5, .fd .str], []⟩, true, [], []⟩
noncomputable def Tryd.m50.E : Env En.Dop.D2 := envOf Tryd.prog 50 Tryd.tb [Tryd.m59.c, Tryd.tz.c] Tryd.m50.p
theorem Tryd.m50.ok : plnOk En.Dop.D2 Tryd.prog 50 Tryd.m50.p = true := by kernel_rfl
noncomputable def Tryd.m50.c : Ctr En.Dop.D2 := ⟨50, Tryd.m50.p.bn, Tryd.m50.p.sp, Tryd.m50.p.rs, Tryd.m50.p.flat, .opt (Tryd.m50.E.run 3000 Tryd.m50.p.sp)⟩
theorem Tryd.m50.holds : Tryd.m50.c.Holds Tryd.prog := fun_ctr 3000 Tryd.tbOk (hct_cons Tryd.m59.holds (hct_cons Tryd.tz.holds hct_nil)) Tryd.m50.ok
noncomputable def Tryd.m50 (o : List (Int)) (t1 : Int) (t2 : Int) (t3 : Bool) (t4 : Bool) : Option (Spec.D En.Dop.D2 ⟨[.own 3 5, .fd .str], []⟩) := Tryd.m50.E.run 3000 Tryd.m50.p.sp ((o, t1, t2, t3, t4, ()), ())
noncomputable def Tryd.m50_3 (o : List (Int)) (t1 : Int) (t2 : Int) (t3 : Bool) (t4 : Bool) (t10 : List (Int)) (t11 : List UInt8) : Option (Spec.D En.Dop.D2 ⟨[.own 3 5, .fd .str], []⟩) := Tryd.m50.E.cut 3000 3 ((o, t1, t2, t3, t4, t10, t11, ()), ())
noncomputable def Tryd.m50_11 (o : List (Int)) (t1 : Int) (t3 : Bool) (t4 : Bool) (t10 : List (Int)) (t11 : List UInt8) (t13 : Int) (t14 : Int) (t15 : Int) (t16 : Int) (b0 : En.Dop.Ar65) : Option (Spec.D En.Dop.D2 ⟨[.own 3 5, .fd .str], []⟩) := Tryd.m50.E.cut 3000 11 ((o, t1, t3, t4, t10, t11, (), t13, t14, t15, t16, ()), ((b0, ()), ()))
noncomputable def Tryd.m50_18 (o : List (Int)) (t1 : Int) (t3 : Bool) (t4 : Bool) (t10 : List (Int)) (t11 : List UInt8) (t13 : Int) (t17 : Int) (b0 : En.Dop.Ar65) : Option (Spec.D En.Dop.D2 ⟨[.own 3 5, .fd .str], []⟩) := Tryd.m50.E.cut 3000 18 ((o, t1, t3, t4, t10, t11, (), t13, t17, ()), ((b0, ()), ()))
theorem Tryd.m50_eq (o : List (Int)) (t1 : Int) (t2 : Int) (t3 : Bool) (t4 : Bool) : Tryd.m50 o t1 t2 t3 t4 =
  if (decide (t2 < (2 : Int))) = true then
   none
  else
   if (decide (t2 = (10 : Int))) = true then
    none
   else
    if (decide ((36 : Int) < t2)) = true then
     none
    else
     Tryd.m50_3 (o) (t1) (t2) (t3) (t4) (@List.nil Int) (@List.nil UInt8) := by kernel_rfl
theorem Tryd.m50_3_eq (o : List (Int)) (t1 : Int) (t2 : Int) (t3 : Bool) (t4 : Bool) (t10 : List (Int)) (t11 : List UInt8) : Tryd.m50_3 o t1 t2 t3 t4 t10 t11 =
  if (t3) = true then
   none
  else
   (Tryd.m59 (t2)).bind fun y3 =>
    if (y3.fst.fst) = true then
     if (decide (IntKind.u64.wrap t2 = (16 : Int))) = true then
     Tryd.m50_11 (o) (t1) (t3) (t4) (t10) (t11) ((65 : Int)) (IntKind.u64.wrap (4 : Int)) (IntKind.u64.wrap t2) (IntKind.u64.wrap (IntKind.u64.wrap t2 - (1 : Int))) (Dop.Ar65.mk (0 : Int) (0 : Int) (0 : Int) (0 : Int) (0 : Int) (0 : Int) (0 : Int) (0 : Int) (0 : Int) (0 : Int) (0 : Int) (0 : Int) (0 : Int) (0 : Int) (0 : Int) (0 : Int) (0 : Int) (0 : Int) (0 : Int) (0 : Int) (0 : Int) (0 : Int) (0 : Int) (0 : Int) (0 : Int) (0 : Int) (0 : Int) (0 : Int) (0 : Int) (0 : Int) (0 : Int) (0 : Int) (0 : Int) (0 : Int) (0 : Int) (0 : Int) (0 : Int) (0 : Int) (0 : Int) (0 : Int) (0 : Int) (0 : Int) (0 : Int) (0 : Int) (0 : Int) (0 : Int) (0 : Int) (0 : Int) (0 : Int) (0 : Int) (0 : Int) (0 : Int) (0 : Int) (0 : Int) (0 : Int) (0 : Int) (0 : Int) (0 : Int) (0 : Int) (0 : Int) (0 : Int) (0 : Int) (0 : Int) (0 : Int) (0 : Int))
     else none
    else
     Tryd.m50_18 (o) (t1) (t3) (t4) (t10) (t11) ((65 : Int)) (IntKind.u64.wrap t2) (Dop.Ar65.mk (0 : Int) (0 : Int) (0 : Int) (0 : Int) (0 : Int) (0 : Int) (0 : Int) (0 : Int) (0 : Int) (0 : Int) (0 : Int) (0 : Int) (0 : Int) (0 : Int) (0 : Int) (0 : Int) (0 : Int) (0 : Int) (0 : Int) (0 : Int) (0 : Int) (0 : Int) (0 : Int) (0 : Int) (0 : Int) (0 : Int) (0 : Int) (0 : Int) (0 : Int) (0 : Int) (0 : Int) (0 : Int) (0 : Int) (0 : Int) (0 : Int) (0 : Int) (0 : Int) (0 : Int) (0 : Int) (0 : Int) (0 : Int) (0 : Int) (0 : Int) (0 : Int) (0 : Int) (0 : Int) (0 : Int) (0 : Int) (0 : Int) (0 : Int) (0 : Int) (0 : Int) (0 : Int) (0 : Int) (0 : Int) (0 : Int) (0 : Int) (0 : Int) (0 : Int) (0 : Int) (0 : Int) (0 : Int) (0 : Int) (0 : Int) (0 : Int)) := Env.cut_eq' (E := Tryd.m50.E) (f0 := 3000) (c := 3) (q := ⟨[[0, 0, 1, 1], [0, 1, 1, 1]], [0, 1, 2, 3, 4, 10, 11], 0, ⟨[.fd (.sl 3), .fd (.int .u64), .fd (.int .i64), .fd .bool, .fd .bool, .own 3 5, .fd .str], []⟩⟩) (by kernel_rfl) ((o, t1, t2, t3, t4, t10, t11, ()), ()) (by kernel_rfl) (by kernel_rfl)
theorem Tryd.m50_11_eq (o : List (Int)) (t1 : Int) (t3 : Bool) (t4 : Bool) (t10 : List (Int)) (t11 : List UInt8) (t13 : Int) (t14 : Int) (t15 : Int) (t16 : Int) (b0 : En.Dop.Ar65) : Tryd.m50_11 o t1 t3 t4 t10 t11 t13 t14 t15 t16 b0 =
  if (decide (t15 ≤ t1)) = true then
   if (inR (t13 - (1 : Int))) = true then
   if (decide ((0 : Int) ≤ bits BinOp.and IntKind.u64 t1 t16 ∧ bits BinOp.and IntKind.u64 t1 t16 < I (Law.DIG).length)) = true then
   if (decide ((0 : Int) ≤ t13 - (1 : Int) ∧ t13 - (1 : Int) < I (65 : Nat))) = true then
   if (decide ((t13 - (1 : Int)).toNat < (b0.x0 :: b0.x1 :: b0.x2 :: b0.x3 :: b0.x4 :: b0.x5 :: b0.x6 :: b0.x7 :: b0.x8 :: b0.x9 :: b0.x10 :: b0.x11 :: b0.x12 :: b0.x13 :: b0.x14 :: b0.x15 :: b0.x16 :: b0.x17 :: b0.x18 :: b0.x19 :: b0.x20 :: b0.x21 :: b0.x22 :: b0.x23 :: b0.x24 :: b0.x25 :: b0.x26 :: b0.x27 :: b0.x28 :: b0.x29 :: b0.x30 :: b0.x31 :: b0.x32 :: b0.x33 :: b0.x34 :: b0.x35 :: b0.x36 :: b0.x37 :: b0.x38 :: b0.x39 :: b0.x40 :: b0.x41 :: b0.x42 :: b0.x43 :: b0.x44 :: b0.x45 :: b0.x46 :: b0.x47 :: b0.x48 :: b0.x49 :: b0.x50 :: b0.x51 :: b0.x52 :: b0.x53 :: b0.x54 :: b0.x55 :: b0.x56 :: b0.x57 :: b0.x58 :: b0.x59 :: b0.x60 :: b0.x61 :: b0.x62 :: b0.x63 :: b0.x64 :: @List.nil Int).length)) = true then
   if (decide ((0 : Int) ≤ t14 ∧ t14 ≤ I IntKind.u64.bits)) = true then
   Tryd.m50_11 (o) (t1 / (2 : Int) ^ t14.toNat) (t3) (t4) (t10) (t11) (t13 - (1 : Int)) (t14) (t15) (t16) (Law.wrA b0 (t13 - (1 : Int)).toNat (strAt (Law.DIG) (bits BinOp.and IntKind.u64 t1 t16)))
   else none
   else none
   else none
   else none
   else none
  else
   if (inR (t13 - (1 : Int))) = true then
   if (decide ((0 : Int) ≤ t1 ∧ t1 < I (Law.DIG).length)) = true then
   if (decide ((0 : Int) ≤ t13 - (1 : Int) ∧ t13 - (1 : Int) < I (65 : Nat))) = true then
   if (decide ((t13 - (1 : Int)).toNat < (b0.x0 :: b0.x1 :: b0.x2 :: b0.x3 :: b0.x4 :: b0.x5 :: b0.x6 :: b0.x7 :: b0.x8 :: b0.x9 :: b0.x10 :: b0.x11 :: b0.x12 :: b0.x13 :: b0.x14 :: b0.x15 :: b0.x16 :: b0.x17 :: b0.x18 :: b0.x19 :: b0.x20 :: b0.x21 :: b0.x22 :: b0.x23 :: b0.x24 :: b0.x25 :: b0.x26 :: b0.x27 :: b0.x28 :: b0.x29 :: b0.x30 :: b0.x31 :: b0.x32 :: b0.x33 :: b0.x34 :: b0.x35 :: b0.x36 :: b0.x37 :: b0.x38 :: b0.x39 :: b0.x40 :: b0.x41 :: b0.x42 :: b0.x43 :: b0.x44 :: b0.x45 :: b0.x46 :: b0.x47 :: b0.x48 :: b0.x49 :: b0.x50 :: b0.x51 :: b0.x52 :: b0.x53 :: b0.x54 :: b0.x55 :: b0.x56 :: b0.x57 :: b0.x58 :: b0.x59 :: b0.x60 :: b0.x61 :: b0.x62 :: b0.x63 :: b0.x64 :: @List.nil Int).length)) = true then
   if (t3) = true then
    if (inR (t13 - (1 : Int) - (1 : Int))) = true then
    if (decide ((0 : Int) ≤ t13 - (1 : Int) - (1 : Int) ∧ t13 - (1 : Int) - (1 : Int) < I (65 : Nat))) = true then
    if (decide ((t13 - (1 : Int) - (1 : Int)).toNat < (Law.toA (Law.wrA b0 (t13 - (1 : Int)).toNat (strAt (Law.DIG) t1))).length)) = true then
    if (t4) = true then
     if (decide ((0 : Int) ≤ t13 - (1 : Int) - (1 : Int) ∧ t13 - (1 : Int) - (1 : Int) ≤ I (65 : Nat) ∧ I (65 : Nat) ≤ I (65 : Nat) ∧ t13 - (1 : Int) - (1 : Int) < I (65 : Nat))) = true then
     none
     else none
    else
     if (decide ((0 : Int) ≤ t13 - (1 : Int) - (1 : Int) ∧ t13 - (1 : Int) - (1 : Int) ≤ I (65 : Nat) ∧ I (65 : Nat) ≤ I (65 : Nat) ∧ t13 - (1 : Int) - (1 : Int) < I (65 : Nat))) = true then
     if (decide ((0 : Nat) + (t13 - (1 : Int) - (1 : Int)).toNat + ((I (65 : Nat)).toNat - (t13 - (1 : Int) - (1 : Int)).toNat) ≤ (Law.toA (Law.wrA (Law.wrA b0 (t13 - (1 : Int)).toNat (strAt (Law.DIG) t1)) (t13 - (1 : Int) - (1 : Int)).toNat (45 : Int))).length)) = true then
     some ((t10, (List.map (fun (k : Int) => k.toNat.toUInt8) (List.take ((I (65 : Nat)).toNat - (t13 - (1 : Int) - (1 : Int)).toNat) (List.drop ((0 : Nat) + (t13 - (1 : Int) - (1 : Int)).toNat) (Law.toA (Law.wrA (Law.wrA b0 (t13 - (1 : Int)).toNat (strAt (Law.DIG) t1)) (t13 - (1 : Int) - (1 : Int)).toNat (45 : Int))))), ())), ())
     else none
     else none
    else none
    else none
    else none
   else
    if (t4) = true then
     if (decide ((0 : Int) ≤ t13 - (1 : Int) ∧ t13 - (1 : Int) ≤ I (65 : Nat) ∧ I (65 : Nat) ≤ I (65 : Nat) ∧ t13 - (1 : Int) < I (65 : Nat))) = true then
     none
     else none
    else
     if (decide ((0 : Int) ≤ t13 - (1 : Int) ∧ t13 - (1 : Int) ≤ I (65 : Nat) ∧ I (65 : Nat) ≤ I (65 : Nat) ∧ t13 - (1 : Int) < I (65 : Nat))) = true then
     if (decide ((0 : Nat) + (t13 - (1 : Int)).toNat + ((I (65 : Nat)).toNat - (t13 - (1 : Int)).toNat) ≤ (Law.toA (Law.wrA b0 (t13 - (1 : Int)).toNat (strAt (Law.DIG) t1))).length)) = true then
     some ((t10, (List.map (fun (k : Int) => k.toNat.toUInt8) (List.take ((I (65 : Nat)).toNat - (t13 - (1 : Int)).toNat) (List.drop ((0 : Nat) + (t13 - (1 : Int)).toNat) (Law.toA (Law.wrA b0 (t13 - (1 : Int)).toNat (strAt (Law.DIG) t1))))), ())), ())
     else none
     else none
   else none
   else none
   else none
   else none := Env.cut_eq' (E := Tryd.m50.E) (f0 := 3000) (c := 11) (q := ⟨[[0, 0, 0, 0, 0, 0, 1, 1, 1, 0, 1, 0, 1, 1, 1, 1, 1], [0, 1, 0, 0, 0, 0, 1, 1, 1, 0, 1, 0, 1, 1, 1, 1, 1], [0, 1, 0, 0, 0, 1, 1, 1, 0, 1, 0, 1, 1, 1, 1, 1], [2, 0, 0, 0, 1, 1, 1, 0, 1, 0, 1, 1, 1, 1, 1], [1, 0], [0, 1, 1, 1, 1, 0, 1, 0, 1, 1, 1, 1, 1], [0, 1, 1, 1, 1, 1, 1]], [0, 1, 3, 4, 10, 11, 12, 13, 14, 15, 16], 1, ⟨[.fd (.sl 3), .fd (.int .u64), .fd .bool, .fd .bool, .own 3 5, .fd .str, .al 0 0, .fd (.int .i64), .fd (.int .u64), .fd (.int .u64), .fd (.int .u64)], [⟨0, 75, [.st 5], false⟩]⟩⟩) (by kernel_rfl) ((o, t1, t3, t4, t10, t11, (), t13, t14, t15, t16, ()), ((b0, ()), ())) (by kernel_rfl) (by kernel_rfl)

def Tryd.m33.p : Pln := ⟨[], 0, ⟨[.fd (.int .i64), .fd (.int .i64)], []⟩, ⟨[.fd .str], []⟩, true, [], []⟩
noncomputable def Tryd.m33.E : Env En.Dop.D2 := envOf Tryd.prog 33 Tryd.tb [Tryd.m47.c, Tryd.m48.c, Tryd.m49.c, Tryd.m50.c] Tryd.m33.p
theorem Tryd.m33.ok : plnOk En.Dop.D2 Tryd.prog 33 Tryd.m33.p = true := by kernel_rfl
noncomputable def Tryd.m33.c : Ctr En.Dop.D2 := ⟨33, Tryd.m33.p.bn, Tryd.m33.p.sp, Tryd.m33.p.rs, Tryd.m33.p.flat, .opt (Tryd.m33.E.run 3000 Tryd.m33.p.sp)⟩
theorem Tryd.m33.holds : Tryd.m33.c.Holds Tryd.prog := fun_ctr 3000 Tryd.tbOk (hct_cons Tryd.m47.holds (hct_cons Tryd.m48.holds (hct_cons Tryd.m49.holds (hct_cons Tryd.m50.holds hct_nil)))) Tryd.m33.ok
noncomputable def Tryd.m33 (i : Int) (base : Int) : Option (Spec.D En.Dop.D2 ⟨[.fd .str], []⟩) := Tryd.m33.E.run 3000 Tryd.m33.p.sp ((i, base, ()), ())
theorem Tryd.m33_eq (i : Int) (base : Int) : Tryd.m33 i base =
  if (decide (base = (10 : Int))) = true then
   if (decide ((0 : Int) ≤ i)) = true then
    if (decide (i < (100 : Int))) = true then
     (Tryd.m47 (i)).bind fun y5 =>
      some ((y5.fst.fst, ()), ())
    else
     if (decide (i < (0 : Int))) = true then
      none
     else
      (Tryd.m48 (IntKind.u64.wrap i)).bind fun y6 =>
       none
   else
    if (decide (i < (0 : Int))) = true then
     none
    else
     (Tryd.m48 (IntKind.u64.wrap i)).bind fun y5 =>
      none
  else
   (Tryd.m50 (@List.nil Int) (IntKind.u64.wrap i) (base) (decide (i < (0 : Int))) (false)).bind fun y3 =>
    some ((y3.fst.snd.fst, ()), ()) := by kernel_rfl

def Tryd.m20.p : Pln := ⟨[], 0, ⟨[.fd (.int .i64), .fd (.int .i64)], []⟩, ⟨[.fd .str], []⟩, true, [], []⟩
noncomputable def Tryd.m20.E : Env En.Dop.D2 := envOf Tryd.prog 20 Tryd.tb [Tryd.m33.c] Tryd.m20.p
theorem Tryd.m20.ok : plnOk En.Dop.D2 Tryd.prog 20 Tryd.m20.p = true := by kernel_rfl
noncomputable def Tryd.m20.c : Ctr En.Dop.D2 := ⟨20, Tryd.m20.p.bn, Tryd.m20.p.sp, Tryd.m20.p.rs, Tryd.m20.p.flat, .opt (Tryd.m20.E.run 3000 Tryd.m20.p.sp)⟩
theorem Tryd.m20.holds : Tryd.m20.c.Holds Tryd.prog := fun_ctr 3000 Tryd.tbOk (hct_cons Tryd.m33.holds hct_nil) Tryd.m20.ok
noncomputable def Tryd.m20 (i : Int) (base : Int) : Option (Spec.D En.Dop.D2 ⟨[.fd .str], []⟩) := Tryd.m20.E.run 3000 Tryd.m20.p.sp ((i, base, ()), ())
theorem Tryd.m20_eq (i : Int) (base : Int) : Tryd.m20 i base =
  (Tryd.m33 (i) (base)).bind fun y2 =>
   some ((y2.fst.fst, ()), ()) := by kernel_rfl

def Tryd.m9.p : Pln := ⟨[(2, ⟨[[0, 0, 0, 0, 1, 0, 1], [0, 1, 0, 0, 1, 0, 1], [2, 0, 0, 1, 0, 1], [1, 0], [0, 1, 1]], [0, 27, 28, 29], 0, ⟨[.fd (.int .u32), .own 1 9, .fd (.int .i64), .fd (.int .i64)], []⟩⟩)], 0, ⟨[.fd (.int .u32)], []⟩, ⟨[.fd .bool], []⟩, true, [], []⟩
noncomputable def Tryd.m9.E : Env En.Dop.D2 := envOf Tryd.prog 9 Tryd.tb [Tryd.itoa.c, Tryd.m20.c, Tryd.m11.c, Tryd.m10.c] Tryd.m9.p
theorem Tryd.m9.ok : plnOk En.Dop.D2 Tryd.prog 9 Tryd.m9.p = true := by kernel_rfl
noncomputable def Tryd.m9.c : Ctr En.Dop.D2 := ⟨9, Tryd.m9.p.bn, Tryd.m9.p.sp, Tryd.m9.p.rs, Tryd.m9.p.flat, .opt (Tryd.m9.E.run 3000 Tryd.m9.p.sp)⟩
theorem Tryd.m9.holds : Tryd.m9.c.Holds Tryd.prog := fun_ctr 3000 Tryd.tbOk (hct_cons Tryd.itoa.holds (hct_cons Tryd.m20.holds (hct_cons Tryd.m11.holds (hct_cons Tryd.m10.holds hct_nil)))) Tryd.m9.ok
noncomputable def Tryd.m9 (o : Int) : Option (Spec.D En.Dop.D2 ⟨[.fd .bool], []⟩) := Tryd.m9.E.run 3000 Tryd.m9.p.sp ((o, ()), ())
noncomputable def Tryd.m9_2 (o : Int) (t27 : List (List UInt8)) (t28 : Int) (t29 : Int) : Option (Spec.D En.Dop.D2 ⟨[.fd .bool], []⟩) := Tryd.m9.E.cut 3000 2 ((o, t27, t28, t29, ()), ())
theorem Tryd.m9_eq (o : Int) : Tryd.m9 o =
  if (inR o) = true then
  if (inI o) = true then
  if (inR o) = true then
  (Tryd.m20 (o) ((16 : Int))).bind fun y2 =>
   if (decide (((48 : UInt8) :: (120 : UInt8) :: @List.nil UInt8).length + y2.fst.fst.length ≤ (9223372036854775807 : Nat))) = true then
   if (inR o) = true then
   (Tryd.m20 (o) ((16 : Int))).bind fun y3 =>
    if (decide (((48 : UInt8) :: (88 : UInt8) :: @List.nil UInt8).length + y3.fst.fst.length ≤ (9223372036854775807 : Nat))) = true then
    if (decide (((48 : UInt8) :: (88 : UInt8) :: @List.nil UInt8 ++ y3.fst.fst).length + ((85 : UInt8) :: @List.nil UInt8).length ≤ (9223372036854775807 : Nat))) = true then
    if (inR o) = true then
    if (inI o) = true then
    if (decide ((Lib.itoa o).length + ((117 : UInt8) :: @List.nil UInt8).length ≤ (9223372036854775807 : Nat))) = true then
    Tryd.m9_2 (o) (Lib.itoa o :: ((48 : UInt8) :: (120 : UInt8) :: @List.nil UInt8 ++ y2.fst.fst) :: ((48 : UInt8) :: (88 : UInt8) :: @List.nil UInt8 ++ y3.fst.fst ++ (85 : UInt8) :: @List.nil UInt8) :: (Lib.itoa o ++ (117 : UInt8) :: @List.nil UInt8) :: @List.nil (List UInt8)) (I (Lib.itoa o :: ((48 : UInt8) :: (120 : UInt8) :: @List.nil UInt8 ++ y2.fst.fst) :: ((48 : UInt8) :: (88 : UInt8) :: @List.nil UInt8 ++ y3.fst.fst ++ (85 : UInt8) :: @List.nil UInt8) :: (Lib.itoa o ++ (117 : UInt8) :: @List.nil UInt8) :: @List.nil (List UInt8)).length) ((0 : Int))
    else none
    else none
    else none
    else none
    else none
   else none
   else none
  else none
  else none
  else none := by kernel_rfl
theorem Tryd.m9_2_eq (o : Int) (t27 : List (List UInt8)) (t28 : Int) (t29 : Int) : Tryd.m9_2 o t27 t28 t29 =
  if (decide (t29 < t28)) = true then
   if (decide ((0 : Int) ≤ t29 ∧ t29 < I t27.length)) = true then
   if (decide (t29.toNat < t27.length)) = true then
   (Tryd.m11 (@List.getD (List UInt8) t27 t29.toNat (@List.nil UInt8))).bind fun y3 =>
    if (!decide (y3.fst.snd.snd.fst = (0 : Int))) = true then
     some ((false, ()), ())
    else
     if (!decide (I y3.fst.fst.length = (2 : Int))) = true then
      some ((false, ()), ())
     else
      if (decide ((0 : Int) ≤ (0 : Int) ∧ (0 : Int) < I y3.fst.fst.length)) = true then
      if (decide (Int.toNat (0 : Int) < y3.fst.fst.length)) = true then
      if (!decide ((@List.getD Dop.Tok y3.fst.fst (Int.toNat (0 : Int)) Dop.d4).kind = (3 : Int))) = true then
       some ((false, ()), ())
      else
       if (decide ((0 : Int) ≤ (0 : Int) ∧ (0 : Int) < I y3.fst.fst.length)) = true then
       if (decide (Int.toNat (0 : Int) < y3.fst.fst.length)) = true then
       if (inR o) = true then
       if (!decide ((@List.getD Dop.Tok y3.fst.fst (Int.toNat (0 : Int)) Dop.d4).n = o)) = true then
        some ((false, ()), ())
       else
        if (decide ((0 : Int) ≤ (0 : Int) ∧ (0 : Int) < I y3.fst.fst.length)) = true then
        if (decide (Int.toNat (0 : Int) < y3.fst.fst.length)) = true then
        if (!decide ((@List.getD Dop.Tok y3.fst.fst (Int.toNat (0 : Int)) Dop.d4).text = @List.getD (List UInt8) t27 t29.toNat (@List.nil UInt8))) = true then
         some ((false, ()), ())
        else
         if (inR (t29 + (1 : Int))) = true then
         Tryd.m9_2 (o) (t27) (t28) (t29 + (1 : Int))
         else none
        else none
        else none
       else none
       else none
       else none
      else none
      else none
   else none
   else none
  else
   if (inR o) = true then
   if (inR (o + (4294967296 : Int))) = true then
   if (inI (o + (4294967296 : Int))) = true then
   (Tryd.m11 (Lib.itoa (o + (4294967296 : Int)))).bind fun y3 =>
    if (decide (y3.fst.snd.fst = (0 : Int))) = true then
     if (decide (y3.fst.snd.snd.fst = (3 : Int))) = true then
      (Tryd.m10).bind fun y6 =>
       some ((y6.fst.fst, ()), ())
     else
      some ((false, ()), ())
    else
     some ((false, ()), ())
   else none
   else none
   else none := Env.cut_eq' (E := Tryd.m9.E) (f0 := 3000) (c := 2) (q := ⟨[[0, 0, 0, 0, 1, 0, 1], [0, 1, 0, 0, 1, 0, 1], [2, 0, 0, 1, 0, 1], [1, 0], [0, 1, 1]], [0, 27, 28, 29], 0, ⟨[.fd (.int .u32), .own 1 9, .fd (.int .i64), .fd (.int .i64)], []⟩⟩) (by kernel_rfl) ((o, t27, t28, t29, ()), ()) (by kernel_rfl) (by kernel_rfl)
end Go.Proofs
