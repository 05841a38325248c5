/-
  Functions of the seat, lifted: plan, model, contract, equations. Written by a program (Lift) that ran the layer's evaluation; Lean checks each line.
-/
import Derived.Test.YtfdlkehaccgeeaaDoorEn14
import Derived.Test.YtfdlkehaccgeeaaDoorTab2
import Derived.Test.YtfdlkehaccgeeaaDoorLb
namespace Go.Proofs
open Go Go.En

def Tryd.m8.p : Pln := ⟨[(2, ⟨[[0, 0, 0, 0, 0, 1, 0, 1], [0, 1, 0, 0, 0, 1, 0, 1], [0, 1, 0, 0, 1, 0, 1], [2, 0, 0, 1, 0, 1], [1, 0], [0, 1, 1]], [0, 1, 5], 0, ⟨[.fd (.sl 3), .fd (.sl 5), .fd (.int .i64)], []⟩⟩)], 0, ⟨[.fd (.sl 3), .fd (.sl 5)], []⟩, ⟨[.fd .bool], []⟩, true, [], []⟩
noncomputable def Tryd.m8.E : Env En.Dop.D18 := envOf Tryd.prog 8 Tryd.tb [] Tryd.m8.p
theorem Tryd.m8.ok : plnOk En.Dop.D18 Tryd.prog 8 Tryd.m8.p = true := by kernel_rfl
noncomputable def Tryd.m8.c : Ctr En.Dop.D18 := ⟨8, Tryd.m8.p.bn, Tryd.m8.p.sp, Tryd.m8.p.rs, Tryd.m8.p.flat, .opt (Tryd.m8.E.run 3000 Tryd.m8.p.sp)⟩
theorem Tryd.m8.holds : Tryd.m8.c.Holds Tryd.prog := fun_ctr 3000 Tryd.tbOk hct_nil Tryd.m8.ok
noncomputable def Tryd.m8 (l : List (En.Dop.Rno)) (pairs : List (En.Dop.Pr)) : Option (Spec.D En.Dop.D18 ⟨[.fd .bool], []⟩) := Tryd.m8.E.run 3000 Tryd.m8.p.sp ((l, pairs, ()), ())
noncomputable def Tryd.m8_2 (l : List (En.Dop.Rno)) (pairs : List (En.Dop.Pr)) (k : Int) : Option (Spec.D En.Dop.D18 ⟨[.fd .bool], []⟩) := Tryd.m8.E.cut 3000 2 ((l, pairs, k, ()), ())
theorem Tryd.m8_eq (l : List (En.Dop.Rno)) (pairs : List (En.Dop.Pr)) : Tryd.m8 l pairs =
  Tryd.m8_2 (l) (pairs) ((0 : Int)) := by kernel_rfl
theorem Tryd.m8_2_eq (l : List (En.Dop.Rno)) (pairs : List (En.Dop.Pr)) (k : Int) : Tryd.m8_2 l pairs k =
  if (decide (k < I l.length)) = true then
   if (decide (k ≤ (12 : Int))) = true then
    if (decide ((0 : Int) ≤ k ∧ k < I l.length)) = true then
    if (decide ((20 : Int) < I (@List.getD Dop.Rno l k.toNat Dop.d3).head.length)) = true then
     some ((false, ()), ())
    else
     if (decide ((0 : Int) ≤ k ∧ k < I l.length)) = true then
     if (decide ((6 : Int) < I (@List.getD Dop.Rno l k.toNat Dop.d3).args.length)) = true then
      some ((false, ()), ())
     else
      if (inR (k + (1 : Int))) = true then
      Tryd.m8_2 (l) (pairs) (k + (1 : Int))
      else none
     else none
    else none
   else
    if (decide (I l.length ≤ (12 : Int))) = true then
     some ((decide (I pairs.length ≤ (12 : Int)), ()), ())
    else
     some ((false, ()), ())
  else
   if (decide (I l.length ≤ (12 : Int))) = true then
    some ((decide (I pairs.length ≤ (12 : Int)), ()), ())
   else
    some ((false, ()), ()) := Env.cut_eq' (E := Tryd.m8.E) (f0 := 3000) (c := 2) (q := ⟨[[0, 0, 0, 0, 0, 1, 0, 1], [0, 1, 0, 0, 0, 1, 0, 1], [0, 1, 0, 0, 1, 0, 1], [2, 0, 0, 1, 0, 1], [1, 0], [0, 1, 1]], [0, 1, 5], 0, ⟨[.fd (.sl 3), .fd (.sl 5), .fd (.int .i64)], []⟩⟩) (by kernel_rfl) ((l, pairs, k, ()), ()) (by kernel_rfl) (by kernel_rfl)

def Tryd.m15.p : Pln := ⟨[], 1, ⟨[.fd (.int .i64), .al 0 0], [⟨0, 30, [.fd (.sl 4)], false⟩]⟩, ⟨[.fd .bool], [⟨0, 30, [.fd (.sl 4)], false⟩]⟩, false, [], []⟩
noncomputable def Tryd.m15.E : Env En.Dop.D18 := envOf Tryd.prog 15 Tryd.tb [] Tryd.m15.p
theorem Tryd.m15.ok : plnOk En.Dop.D18 Tryd.prog 15 Tryd.m15.p = true := by kernel_rfl
noncomputable def Tryd.m15.c : Ctr En.Dop.D18 := ⟨15, Tryd.m15.p.bn, Tryd.m15.p.sp, Tryd.m15.p.rs, Tryd.m15.p.flat, .opt (Tryd.m15.E.run 3000 Tryd.m15.p.sp)⟩
theorem Tryd.m15.holds : Tryd.m15.c.Holds Tryd.prog := fun_ctr 3000 Tryd.tbOk hct_nil Tryd.m15.ok
noncomputable def Tryd.m15 (n : Int) (b0 : List (En.Dop.Nod)) : Option (Spec.D En.Dop.D18 ⟨[.fd .bool], [⟨0, 30, [.fd (.sl 4)], false⟩]⟩) := Tryd.m15.E.run 3000 Tryd.m15.p.sp ((n, (), ()), ((b0, ()), ()))
theorem Tryd.m15_eq (n : Int) (b0 : List (En.Dop.Nod)) : Tryd.m15 n b0 =
  if (decide ((0 : Int) ≤ n)) = true then
   some ((decide (n < I b0.length), ()), ((b0, ()), ()))
  else
   some ((false, ()), ((b0, ()), ())) := by kernel_rfl

def Tryd.m18.p : Pln := ⟨[(1, ⟨[[0, 0, 0, 0, 0, 0, 1], [0, 1, 0, 0, 0, 0, 1], [0, 1, 0, 0, 0, 1], [2, 0, 0, 0, 1], [1, 0], [0, 1, 1]], [0, 1], 0, ⟨[.fd (.sl 0), .fd (.int .i64)], []⟩⟩)], 0, ⟨[.fd (.sl 0), .fd (.int .i64)], []⟩, ⟨[.fd (.int .i64)], []⟩, true, [], []⟩
noncomputable def Tryd.m18.E : Env En.Dop.D18 := envOf Tryd.prog 18 Tryd.tb [] Tryd.m18.p
theorem Tryd.m18.ok : plnOk En.Dop.D18 Tryd.prog 18 Tryd.m18.p = true := by kernel_rfl
noncomputable def Tryd.m18.c : Ctr En.Dop.D18 := ⟨18, Tryd.m18.p.bn, Tryd.m18.p.sp, Tryd.m18.p.rs, Tryd.m18.p.flat, .opt (Tryd.m18.E.run 3000 Tryd.m18.p.sp)⟩
theorem Tryd.m18.holds : Tryd.m18.c.Holds Tryd.prog := fun_ctr 3000 Tryd.tbOk hct_nil Tryd.m18.ok
noncomputable def Tryd.m18 (up : List (Int)) (n : Int) : Option (Spec.D En.Dop.D18 ⟨[.fd (.int .i64)], []⟩) := Tryd.m18.E.run 3000 Tryd.m18.p.sp ((up, n, ()), ())
noncomputable def Tryd.m18_1 (up : List (Int)) (n : Int) : Option (Spec.D En.Dop.D18 ⟨[.fd (.int .i64)], []⟩) := Tryd.m18.E.cut 3000 1 ((up, n, ()), ())
theorem Tryd.m18_eq (up : List (Int)) (n : Int) : Tryd.m18 up n =
  Tryd.m18_1 (up) (n) := by kernel_rfl
theorem Tryd.m18_1_eq (up : List (Int)) (n : Int) : Tryd.m18_1 up n =
  if (decide ((0 : Int) ≤ n)) = true then
   if (decide (n < I up.length)) = true then
    if (decide ((0 : Int) ≤ n ∧ n < I up.length)) = true then
    if (!decide (@List.getD Int up n.toNat (0 : Int) = n)) = true then
     if (decide ((0 : Int) ≤ n ∧ n < I up.length)) = true then
     Tryd.m18_1 (up) (@List.getD Int up n.toNat (0 : Int))
     else none
    else
     some ((n, ()), ())
    else none
   else
    some ((n, ()), ())
  else
   some ((n, ()), ()) := Env.cut_eq' (E := Tryd.m18.E) (f0 := 3000) (c := 1) (q := ⟨[[0, 0, 0, 0, 0, 0, 1], [0, 1, 0, 0, 0, 0, 1], [0, 1, 0, 0, 0, 1], [2, 0, 0, 0, 1], [1, 0], [0, 1, 1]], [0, 1], 0, ⟨[.fd (.sl 0), .fd (.int .i64)], []⟩⟩) (by kernel_rfl) ((up, n, ()), ()) (by kernel_rfl) (by kernel_rfl)

def Tryd.m17.p : Pln := ⟨[(3, ⟨[[0, 0, 0, 0, 1, 0, 1, 1], [0, 1, 0, 0, 1, 0, 1, 1], [2, 0, 0, 1, 0, 1, 1], [1, 0], [0, 1, 1, 1]], [1, 5, 12, 13, 14], 0, ⟨[.fd (.sl 0), .fd .str, .fd (.sl 0), .fd (.int .i64), .fd (.int .i64)], []⟩⟩)], 0, ⟨[.st 4, .fd (.sl 0)], []⟩, ⟨[.fd .str], []⟩, true, [], []⟩
noncomputable def Tryd.m17.E : Env En.Dop.D18 := envOf Tryd.prog 17 Tryd.tb [Tryd.quote.c, Tryd.m18.c, Tryd.itoa.c] Tryd.m17.p
theorem Tryd.m17.ok : plnOk En.Dop.D18 Tryd.prog 17 Tryd.m17.p = true := by kernel_rfl
noncomputable def Tryd.m17.c : Ctr En.Dop.D18 := ⟨17, Tryd.m17.p.bn, Tryd.m17.p.sp, Tryd.m17.p.rs, Tryd.m17.p.flat, .opt (Tryd.m17.E.run 3000 Tryd.m17.p.sp)⟩
theorem Tryd.m17.holds : Tryd.m17.c.Holds Tryd.prog := fun_ctr 3000 Tryd.tbOk (hct_cons Tryd.quote.holds (hct_cons Tryd.m18.holds (hct_cons Tryd.itoa.holds hct_nil))) Tryd.m17.ok
noncomputable def Tryd.m17 (x : En.Dop.Nod) (up : List (Int)) : Option (Spec.D En.Dop.D18 ⟨[.fd .str], []⟩) := Tryd.m17.E.run 3000 Tryd.m17.p.sp ((x, up, ()), ())
noncomputable def Tryd.m17_3 (up : List (Int)) (out : List UInt8) (t12 : List (Int)) (t13 : Int) (t14 : Int) : Option (Spec.D En.Dop.D18 ⟨[.fd .str], []⟩) := Tryd.m17.E.cut 3000 3 ((up, out, t12, t13, t14, ()), ())
theorem Tryd.m17_eq (x : En.Dop.Nod) (up : List (Int)) : Tryd.m17 x up =
  if (okQ x.head) = true then
  Tryd.m17_3 (up) (Law.quoteL Lib.goPrintTabs x.head) (x.args) (I x.args.length) ((0 : Int))
  else none := by kernel_rfl
theorem Tryd.m17_3_eq (up : List (Int)) (out : List UInt8) (t12 : List (Int)) (t13 : Int) (t14 : Int) : Tryd.m17_3 up out t12 t13 t14 =
  if (decide (t14 < t13)) = true then
   if (decide ((0 : Int) ≤ t14 ∧ t14 < I t12.length)) = true then
   (Tryd.m18 (up) (@List.getD Int t12 t14.toNat (0 : Int))).bind fun y3 =>
    if (inI y3.fst.fst) = true then
    if (decide (((32 : UInt8) :: @List.nil UInt8).length + (Lib.itoa y3.fst.fst).length ≤ (9223372036854775807 : Nat))) = true then
    if (decide (out.length + ((32 : UInt8) :: @List.nil UInt8 ++ Lib.itoa y3.fst.fst).length ≤ (9223372036854775807 : Nat))) = true then
    if (inR (t14 + (1 : Int))) = true then
    Tryd.m17_3 (up) (out ++ ((32 : UInt8) :: @List.nil UInt8 ++ Lib.itoa y3.fst.fst)) (t12) (t13) (t14 + (1 : Int))
    else none
    else none
    else none
    else none
   else none
  else
   some ((out, ()), ()) := Env.cut_eq' (E := Tryd.m17.E) (f0 := 3000) (c := 3) (q := ⟨[[0, 0, 0, 0, 1, 0, 1, 1], [0, 1, 0, 0, 1, 0, 1, 1], [2, 0, 0, 1, 0, 1, 1], [1, 0], [0, 1, 1, 1]], [1, 5, 12, 13, 14], 0, ⟨[.fd (.sl 0), .fd .str, .fd (.sl 0), .fd (.int .i64), .fd (.int .i64)], []⟩⟩) (by kernel_rfl) ((up, out, t12, t13, t14, ()), ()) (by kernel_rfl) (by kernel_rfl)

def Tryd.m11.p : Pln := ⟨[(3, ⟨[[0, 0, 0, 0, 1, 0, 1, 0, 1], [0, 1, 0, 0, 1, 0, 1, 0, 1], [2, 0, 0, 1, 0, 1, 0, 1], [1, 0], [0, 1, 1, 0, 1], [3, 0, 1]], [1, 2, 5, 23, 24], 1, ⟨[.fd (.sl 5), .al 0 0, .own 0 3, .fd (.int .i64), .fd (.int .i64)], [⟨0, 30, [.fd (.sl 4)], false⟩]⟩⟩), (9, ⟨[[0, 0, 0, 0, 1, 0, 1, 1, 1, 0, 1], [0, 1, 0, 0, 1, 0, 1, 1, 1, 0, 1], [2, 0, 0, 1, 0, 1, 1, 1, 0, 1], [1, 2], [0, 1, 1, 1, 1, 0, 1], [3, 0, 1]], [2, 5, 7, 33, 34, 35], 1, ⟨[.al 0 0, .own 0 3, .fn 15 [(0, 0)], .fd (.sl 5), .fd (.int .i64), .fd (.int .i64)], [⟨0, 30, [.fd (.sl 4)], false⟩]⟩⟩), (14, ⟨[[0, 0, 1, 1, 1, 1, 1, 0, 1], [0, 1, 1, 1, 1, 1, 1, 0, 1], [3, 0, 1]], [2, 5], 1, ⟨[.al 0 0, .own 0 3], [⟨0, 30, [.fd (.sl 4)], false⟩]⟩⟩), (17, ⟨[[0, 0, 0, 0, 1, 0, 1, 1, 1, 1, 1, 1, 1, 0, 1], [0, 1, 0, 0, 1, 0, 1, 1, 1, 1, 1, 1, 1, 0, 1], [2, 0, 0, 1, 0, 1, 1, 1, 1, 1, 1, 1, 0, 1], [1, 4], [0, 1, 1, 1, 1, 1, 1, 1, 1, 0, 1], [3, 0, 1]], [2, 5, 10, 11, 57, 58, 59], 1, ⟨[.al 0 0, .own 0 3, .fd .bool, .mp (.str) 0 false, .fd (.sl 4), .fd (.int .i64), .fd (.int .i64)], [⟨0, 30, [.fd (.sl 4)], false⟩]⟩⟩), (100014, ⟨[[0, 0, 1, 2, 0, 1], [0, 1, 1, 2, 0, 1], [3, 0, 1]], [2, 5], 1, ⟨[.al 0 0, .own 0 3], [⟨0, 30, [.fd (.sl 4)], false⟩]⟩⟩), (28, ⟨[[0, 0, 0, 0, 1, 0, 1, 1, 1, 1, 1, 1, 1, 1, 1, 1, 0, 1], [0, 1, 0, 0, 1, 0, 1, 1, 1, 1, 1, 1, 1, 1, 1, 1, 0, 1], [2, 0, 0, 1, 0, 1, 1, 1, 1, 1, 1, 1, 1, 1, 1, 0, 1], [1, 6], [0, 1, 1, 1, 1, 1, 1, 1, 1, 1, 1, 1, 0, 1], [3, 0, 1]], [5, 17, 90, 91], 0, ⟨[.own 0 3, .own 0 3, .fd (.int .i64), .fd (.int .i64)], []⟩⟩), (100017, ⟨[[0, 0, 0, 0, 1, 0, 1, 1, 1, 2, 0, 1], [0, 1, 0, 0, 1, 0, 1, 1, 1, 2, 0, 1], [2, 0, 0, 1, 0, 1, 1, 1, 2, 0, 1], [1, 4], [0, 1, 1, 1, 1, 2, 0, 1], [3, 0, 1]], [2, 5, 10, 11, 57, 58, 59], 1, ⟨[.al 0 0, .own 0 3, .fd .bool, .mp (.str) 0 false, .fd (.sl 4), .fd (.int .i64), .fd (.int .i64)], [⟨0, 30, [.fd (.sl 4)], false⟩]⟩⟩), (100028, ⟨[[0, 0, 0, 0, 1, 0, 1, 1, 1, 1, 1, 1, 2, 0, 1], [0, 1, 0, 0, 1, 0, 1, 1, 1, 1, 1, 1, 2, 0, 1], [2, 0, 0, 1, 0, 1, 1, 1, 1, 1, 1, 2, 0, 1], [1, 6], [0, 1, 1, 1, 1, 1, 1, 1, 2, 0, 1], [3, 0, 1]], [5, 17, 90, 91], 0, ⟨[.own 0 3, .own 0 3, .fd (.int .i64), .fd (.int .i64)], []⟩⟩)], 0, ⟨[.fd (.sl 4), .fd (.sl 5)], []⟩, ⟨[.own 0 3], []⟩, true, [], [(16, [])]⟩
noncomputable def Tryd.m11.E : Env En.Dop.D18 := envOf Tryd.prog 11 Tryd.tb [Tryd.m15.c, Tryd.m18.c, Tryd.m17.c] Tryd.m11.p
theorem Tryd.m11.ok : plnOk En.Dop.D18 Tryd.prog 11 Tryd.m11.p = true := by kernel_rfl
noncomputable def Tryd.m11.c : Ctr En.Dop.D18 := ⟨11, Tryd.m11.p.bn, Tryd.m11.p.sp, Tryd.m11.p.rs, Tryd.m11.p.flat, .opt (Tryd.m11.E.run 3000 Tryd.m11.p.sp)⟩
theorem Tryd.m11.holds : Tryd.m11.c.Holds Tryd.prog := fun_ctr 3000 Tryd.tbOk (hct_cons Tryd.m15.holds (hct_cons Tryd.m18.holds (hct_cons Tryd.m17.holds hct_nil))) Tryd.m11.ok
noncomputable def Tryd.m11 (o : List (En.Dop.Nod)) (t1 : List (En.Dop.Pr)) : Option (Spec.D En.Dop.D18 ⟨[.own 0 3], []⟩) := Tryd.m11.E.run 3000 Tryd.m11.p.sp ((o, t1, ()), ())
noncomputable def Tryd.m11_3 (t1 : List (En.Dop.Pr)) (t5 : List (Int)) (t23 : Int) (t24 : Int) (b0 : List (En.Dop.Nod)) : Option (Spec.D En.Dop.D18 ⟨[.own 0 3], []⟩) := Tryd.m11.E.cut 3000 3 ((t1, (), t5, t23, t24, ()), ((b0, ()), ()))
noncomputable def Tryd.m11_9 (t5 : List (Int)) (t33 : List (En.Dop.Pr)) (t34 : Int) (t35 : Int) (b0 : List (En.Dop.Nod)) : Option (Spec.D En.Dop.D18 ⟨[.own 0 3], []⟩) := Tryd.m11.E.cut 3000 9 (((), t5, (), t33, t34, t35, ()), ((b0, ()), ()))
noncomputable def Tryd.m11_14 (t5 : List (Int)) (b0 : List (En.Dop.Nod)) : Option (Spec.D En.Dop.D18 ⟨[.own 0 3], []⟩) := Tryd.m11.E.cut 3000 14 (((), t5, ()), ((b0, ()), ()))
noncomputable def Tryd.m11_17 (t5 : List (Int)) (t10 : Bool) (t11 : List (List UInt8 × Int)) (t57 : List (En.Dop.Nod)) (t58 : Int) (t59 : Int) (b0 : List (En.Dop.Nod)) : Option (Spec.D En.Dop.D18 ⟨[.own 0 3], []⟩) := Tryd.m11.E.cut 3000 17 (((), t5, t10, t11, t57, t58, t59, ()), ((b0, ()), ()))
noncomputable def Tryd.m11_100014 (t5 : List (Int)) (b0 : List (En.Dop.Nod)) : Option (Spec.D En.Dop.D18 ⟨[.own 0 3], []⟩) := Tryd.m11.E.cut 3000 100014 (((), t5, ()), ((b0, ()), ()))
noncomputable def Tryd.m11_28 (t5 : List (Int)) (t17 : List (Int)) (t90 : Int) (t91 : Int) : Option (Spec.D En.Dop.D18 ⟨[.own 0 3], []⟩) := Tryd.m11.E.cut 3000 28 ((t5, t17, t90, t91, ()), ())
noncomputable def Tryd.m11_100017 (t5 : List (Int)) (t10 : Bool) (t11 : List (List UInt8 × Int)) (t57 : List (En.Dop.Nod)) (t58 : Int) (t59 : Int) (b0 : List (En.Dop.Nod)) : Option (Spec.D En.Dop.D18 ⟨[.own 0 3], []⟩) := Tryd.m11.E.cut 3000 100017 (((), t5, t10, t11, t57, t58, t59, ()), ((b0, ()), ()))
noncomputable def Tryd.m11_100028 (t5 : List (Int)) (t17 : List (Int)) (t90 : Int) (t91 : Int) : Option (Spec.D En.Dop.D18 ⟨[.own 0 3], []⟩) := Tryd.m11.E.cut 3000 100028 ((t5, t17, t90, t91, ()), ())
theorem Tryd.m11_eq (o : List (En.Dop.Nod)) (t1 : List (En.Dop.Pr)) : Tryd.m11 o t1 =
  if (decide ((0 : Int) ≤ I o.length ∧ I o.length ≤ I o.length ∧ I o.length * (I (8 : Nat) + (1 : Int)) ≤ (140737488355328 : Int))) = true then
  Tryd.m11_3 (t1) (List.replicate (I o.length).toNat (0 : Int)) (I (List.replicate (I o.length).toNat (0 : Int)).length) ((0 : Int)) (o)
  else none := by kernel_rfl
theorem Tryd.m11_3_eq (t1 : List (En.Dop.Pr)) (t5 : List (Int)) (t23 : Int) (t24 : Int) (b0 : List (En.Dop.Nod)) : Tryd.m11_3 t1 t5 t23 t24 b0 =
  if (decide (t24 < t23)) = true then
   if (decide ((0 : Int) ≤ t24 ∧ t24 < I t5.length)) = true then
   if (decide (t24.toNat < t5.length)) = true then
   if (inR (t24 + (1 : Int))) = true then
   Tryd.m11_3 (t1) (t5.set t24.toNat t24) (t23) (t24 + (1 : Int)) (b0)
   else none
   else none
   else none
  else
   Tryd.m11_9 (t5) (t1) (I t1.length) ((0 : Int)) (b0) := Env.cut_eq' (E := Tryd.m11.E) (f0 := 3000) (c := 3) (q := ⟨[[0, 0, 0, 0, 1, 0, 1, 0, 1], [0, 1, 0, 0, 1, 0, 1, 0, 1], [2, 0, 0, 1, 0, 1, 0, 1], [1, 0], [0, 1, 1, 0, 1], [3, 0, 1]], [1, 2, 5, 23, 24], 1, ⟨[.fd (.sl 5), .al 0 0, .own 0 3, .fd (.int .i64), .fd (.int .i64)], [⟨0, 30, [.fd (.sl 4)], false⟩]⟩⟩) (by kernel_rfl) ((t1, (), t5, t23, t24, ()), ((b0, ()), ())) (by kernel_rfl) (by kernel_rfl)
theorem Tryd.m11_9_eq (t5 : List (Int)) (t33 : List (En.Dop.Pr)) (t34 : Int) (t35 : Int) (b0 : List (En.Dop.Nod)) : Tryd.m11_9 t5 t33 t34 t35 b0 =
  if (decide (t35 < t34)) = true then
   if (decide ((0 : Int) ≤ t35 ∧ t35 < I t33.length)) = true then
   if (decide ((0 : Int) ≤ (0 : Int) ∧ (0 : Int) < I (2 : Nat))) = true then
   (Tryd.m15 ((@List.getD Dop.Pr t33 t35.toNat Dop.d5).x0) (b0)).bind fun y3 =>
    if (y3.fst.fst) = true then
     if (decide ((0 : Int) ≤ (1 : Int) ∧ (1 : Int) < I (2 : Nat))) = true then
     (Tryd.m15 ((@List.getD Dop.Pr t33 t35.toNat Dop.d5).x1) (y3.snd.fst.fst)).bind fun y5 =>
      if (y5.fst.fst) = true then
       if (decide ((0 : Int) ≤ (0 : Int) ∧ (0 : Int) < I (2 : Nat))) = true then
       if (decide ((0 : Int) ≤ (1 : Int) ∧ (1 : Int) < I (2 : Nat))) = true then
       (Tryd.m18 (t5) ((@List.getD Dop.Pr t33 t35.toNat Dop.d5).x0)).bind fun y7 =>
        (Tryd.m18 (t5) ((@List.getD Dop.Pr t33 t35.toNat Dop.d5).x1)).bind fun y8 =>
         if (decide (y7.fst.fst = y8.fst.fst)) = true then
          if (inR (t35 + (1 : Int))) = true then
          Tryd.m11_9 (t5) (t33) (t34) (t35 + (1 : Int)) (y5.snd.fst.fst)
          else none
         else
          if (decide (((0 : Int) ≤ if y7.fst.fst < y8.fst.fst then y8.fst.fst else y7.fst.fst) ∧ (if y7.fst.fst < y8.fst.fst then y8.fst.fst else y7.fst.fst) < I t5.length)) = true then
          if (decide ((if y7.fst.fst < y8.fst.fst then y8.fst.fst else y7.fst.fst).toNat < t5.length)) = true then
          if (inR (t35 + (1 : Int))) = true then
          Tryd.m11_9 (t5.set (if y7.fst.fst < y8.fst.fst then y8.fst.fst else y7.fst.fst).toNat (if y8.fst.fst < y7.fst.fst then y8.fst.fst else y7.fst.fst)) (t33) (t34) (t35 + (1 : Int)) (y5.snd.fst.fst)
          else none
          else none
          else none
       else none
       else none
      else
       if (inR (t35 + (1 : Int))) = true then
       Tryd.m11_9 (t5) (t33) (t34) (t35 + (1 : Int)) (y5.snd.fst.fst)
       else none
     else none
    else
     if (inR (t35 + (1 : Int))) = true then
     Tryd.m11_9 (t5) (t33) (t34) (t35 + (1 : Int)) (y3.snd.fst.fst)
     else none
   else none
   else none
  else
   Tryd.m11_14 (t5) (b0) := Env.cut_eq' (E := Tryd.m11.E) (f0 := 3000) (c := 9) (q := ⟨[[0, 0, 0, 0, 1, 0, 1, 1, 1, 0, 1], [0, 1, 0, 0, 1, 0, 1, 1, 1, 0, 1], [2, 0, 0, 1, 0, 1, 1, 1, 0, 1], [1, 2], [0, 1, 1, 1, 1, 0, 1], [3, 0, 1]], [2, 5, 7, 33, 34, 35], 1, ⟨[.al 0 0, .own 0 3, .fn 15 [(0, 0)], .fd (.sl 5), .fd (.int .i64), .fd (.int .i64)], [⟨0, 30, [.fd (.sl 4)], false⟩]⟩⟩) (by kernel_rfl) (((), t5, (), t33, t34, t35, ()), ((b0, ()), ())) (by kernel_rfl) (by kernel_rfl)
theorem Tryd.m11_14_eq (t5 : List (Int)) (b0 : List (En.Dop.Nod)) : Tryd.m11_14 t5 b0 =
  Tryd.m11_17 (t5) (false) (@List.nil (List UInt8 × Int)) (b0) (I b0.length) ((0 : Int)) (b0) := Env.cut_eq' (E := Tryd.m11.E) (f0 := 3000) (c := 14) (q := ⟨[[0, 0, 1, 1, 1, 1, 1, 0, 1], [0, 1, 1, 1, 1, 1, 1, 0, 1], [3, 0, 1]], [2, 5], 1, ⟨[.al 0 0, .own 0 3], [⟨0, 30, [.fd (.sl 4)], false⟩]⟩⟩) (by kernel_rfl) (((), t5, ()), ((b0, ()), ())) (by kernel_rfl) (by kernel_rfl)
theorem Tryd.m11_17_eq (t5 : List (Int)) (t10 : Bool) (t11 : List (List UInt8 × Int)) (t57 : List (En.Dop.Nod)) (t58 : Int) (t59 : Int) (b0 : List (En.Dop.Nod)) : Tryd.m11_17 t5 t10 t11 t57 t58 t59 b0 =
  if (decide (t59 < t58)) = true then
   if (decide ((0 : Int) ≤ t59 ∧ t59 < I t57.length)) = true then
   (Tryd.m17 (@List.getD Dop.Nod t57 t59.toNat Dop.d4) (t5)).bind fun y3 =>
    if ((mlookS t11 y3.fst.fst).isSome) = true then
     (Tryd.m18 (t5) ((mlookS t11 y3.fst.fst).getD (0 : Int))).bind fun y5 =>
      (Tryd.m18 (t5) (t59)).bind fun y6 =>
       if (decide (y5.fst.fst = y6.fst.fst)) = true then
        if (inR (t59 + (1 : Int))) = true then
        Tryd.m11_17 (t5) (t10) (t11) (t57) (t58) (t59 + (1 : Int)) (b0)
        else none
       else
        if (decide (((0 : Int) ≤ if y5.fst.fst < y6.fst.fst then y6.fst.fst else y5.fst.fst) ∧ (if y5.fst.fst < y6.fst.fst then y6.fst.fst else y5.fst.fst) < I t5.length)) = true then
        if (decide ((if y5.fst.fst < y6.fst.fst then y6.fst.fst else y5.fst.fst).toNat < t5.length)) = true then
        if (inR (t59 + (1 : Int))) = true then
        Tryd.m11_17 (t5.set (if y5.fst.fst < y6.fst.fst then y6.fst.fst else y5.fst.fst).toNat (if y6.fst.fst < y5.fst.fst then y6.fst.fst else y5.fst.fst)) (true) (t11) (t57) (t58) (t59 + (1 : Int)) (b0)
        else none
        else none
        else none
    else
     if (inR (t59 + (1 : Int))) = true then
     Tryd.m11_17 (t5) (t10) (mputS t11 y3.fst.fst t59) (t57) (t58) (t59 + (1 : Int)) (b0)
     else none
   else none
  else
   if (t10) = true then
    Tryd.m11_100014 (t5) (b0)
   else
    if (decide ((0 : Int) ≤ I b0.length ∧ I b0.length ≤ I b0.length ∧ I b0.length * (I (8 : Nat) + (1 : Int)) ≤ (140737488355328 : Int))) = true then
    Tryd.m11_28 (t5) (List.replicate (I b0.length).toNat (0 : Int)) (I b0.length) ((0 : Int))
    else none := Env.cut_eq' (E := Tryd.m11.E) (f0 := 3000) (c := 17) (q := ⟨[[0, 0, 0, 0, 1, 0, 1, 1, 1, 1, 1, 1, 1, 0, 1], [0, 1, 0, 0, 1, 0, 1, 1, 1, 1, 1, 1, 1, 0, 1], [2, 0, 0, 1, 0, 1, 1, 1, 1, 1, 1, 1, 0, 1], [1, 4], [0, 1, 1, 1, 1, 1, 1, 1, 1, 0, 1], [3, 0, 1]], [2, 5, 10, 11, 57, 58, 59], 1, ⟨[.al 0 0, .own 0 3, .fd .bool, .mp (.str) 0 false, .fd (.sl 4), .fd (.int .i64), .fd (.int .i64)], [⟨0, 30, [.fd (.sl 4)], false⟩]⟩⟩) (by kernel_rfl) (((), t5, t10, t11, t57, t58, t59, ()), ((b0, ()), ())) (by kernel_rfl) (by kernel_rfl)
theorem Tryd.m11_100014_eq (t5 : List (Int)) (b0 : List (En.Dop.Nod)) : Tryd.m11_100014 t5 b0 =
  Tryd.m11_100017 (t5) (false) (@List.nil (List UInt8 × Int)) (b0) (I b0.length) ((0 : Int)) (b0) := Env.cut_eq' (E := Tryd.m11.E) (f0 := 3000) (c := 100014) (q := ⟨[[0, 0, 1, 2, 0, 1], [0, 1, 1, 2, 0, 1], [3, 0, 1]], [2, 5], 1, ⟨[.al 0 0, .own 0 3], [⟨0, 30, [.fd (.sl 4)], false⟩]⟩⟩) (by kernel_rfl) (((), t5, ()), ((b0, ()), ())) (by kernel_rfl) (by kernel_rfl)
theorem Tryd.m11_28_eq (t5 : List (Int)) (t17 : List (Int)) (t90 : Int) (t91 : Int) : Tryd.m11_28 t5 t17 t90 t91 =
  if (decide (t91 < t90)) = true then
   (Tryd.m18 (t5) (t91)).bind fun y3 =>
    if (decide ((0 : Int) ≤ t91 ∧ t91 < I t17.length)) = true then
    if (decide (t91.toNat < t17.length)) = true then
    if (inR (t91 + (1 : Int))) = true then
    Tryd.m11_28 (t5) (t17.set t91.toNat y3.fst.fst) (t90) (t91 + (1 : Int))
    else none
    else none
    else none
  else
   some ((t17, ()), ()) := Env.cut_eq' (E := Tryd.m11.E) (f0 := 3000) (c := 28) (q := ⟨[[0, 0, 0, 0, 1, 0, 1, 1, 1, 1, 1, 1, 1, 1, 1, 1, 0, 1], [0, 1, 0, 0, 1, 0, 1, 1, 1, 1, 1, 1, 1, 1, 1, 1, 0, 1], [2, 0, 0, 1, 0, 1, 1, 1, 1, 1, 1, 1, 1, 1, 1, 0, 1], [1, 6], [0, 1, 1, 1, 1, 1, 1, 1, 1, 1, 1, 1, 0, 1], [3, 0, 1]], [5, 17, 90, 91], 0, ⟨[.own 0 3, .own 0 3, .fd (.int .i64), .fd (.int .i64)], []⟩⟩) (by kernel_rfl) ((t5, t17, t90, t91, ()), ()) (by kernel_rfl) (by kernel_rfl)
theorem Tryd.m11_100017_eq (t5 : List (Int)) (t10 : Bool) (t11 : List (List UInt8 × Int)) (t57 : List (En.Dop.Nod)) (t58 : Int) (t59 : Int) (b0 : List (En.Dop.Nod)) : Tryd.m11_100017 t5 t10 t11 t57 t58 t59 b0 =
  if (decide (t59 < t58)) = true then
   if (decide ((0 : Int) ≤ t59 ∧ t59 < I t57.length)) = true then
   (Tryd.m17 (@List.getD Dop.Nod t57 t59.toNat Dop.d4) (t5)).bind fun y3 =>
    if ((mlookS t11 y3.fst.fst).isSome) = true then
     (Tryd.m18 (t5) ((mlookS t11 y3.fst.fst).getD (0 : Int))).bind fun y5 =>
      (Tryd.m18 (t5) (t59)).bind fun y6 =>
       if (decide (y5.fst.fst = y6.fst.fst)) = true then
        if (inR (t59 + (1 : Int))) = true then
        Tryd.m11_100017 (t5) (t10) (t11) (t57) (t58) (t59 + (1 : Int)) (b0)
        else none
       else
        if (decide (((0 : Int) ≤ if y5.fst.fst < y6.fst.fst then y6.fst.fst else y5.fst.fst) ∧ (if y5.fst.fst < y6.fst.fst then y6.fst.fst else y5.fst.fst) < I t5.length)) = true then
        if (decide ((if y5.fst.fst < y6.fst.fst then y6.fst.fst else y5.fst.fst).toNat < t5.length)) = true then
        if (inR (t59 + (1 : Int))) = true then
        Tryd.m11_100017 (t5.set (if y5.fst.fst < y6.fst.fst then y6.fst.fst else y5.fst.fst).toNat (if y6.fst.fst < y5.fst.fst then y6.fst.fst else y5.fst.fst)) (true) (t11) (t57) (t58) (t59 + (1 : Int)) (b0)
        else none
        else none
        else none
    else
     if (inR (t59 + (1 : Int))) = true then
     Tryd.m11_100017 (t5) (t10) (mputS t11 y3.fst.fst t59) (t57) (t58) (t59 + (1 : Int)) (b0)
     else none
   else none
  else
   if (t10) = true then
    Tryd.m11_100014 (t5) (b0)
   else
    if (decide ((0 : Int) ≤ I b0.length ∧ I b0.length ≤ I b0.length ∧ I b0.length * (I (8 : Nat) + (1 : Int)) ≤ (140737488355328 : Int))) = true then
    Tryd.m11_100028 (t5) (List.replicate (I b0.length).toNat (0 : Int)) (I b0.length) ((0 : Int))
    else none := Env.cut_eq' (E := Tryd.m11.E) (f0 := 3000) (c := 100017) (q := ⟨[[0, 0, 0, 0, 1, 0, 1, 1, 1, 2, 0, 1], [0, 1, 0, 0, 1, 0, 1, 1, 1, 2, 0, 1], [2, 0, 0, 1, 0, 1, 1, 1, 2, 0, 1], [1, 4], [0, 1, 1, 1, 1, 2, 0, 1], [3, 0, 1]], [2, 5, 10, 11, 57, 58, 59], 1, ⟨[.al 0 0, .own 0 3, .fd .bool, .mp (.str) 0 false, .fd (.sl 4), .fd (.int .i64), .fd (.int .i64)], [⟨0, 30, [.fd (.sl 4)], false⟩]⟩⟩) (by kernel_rfl) (((), t5, t10, t11, t57, t58, t59, ()), ((b0, ()), ())) (by kernel_rfl) (by kernel_rfl)
theorem Tryd.m11_100028_eq (t5 : List (Int)) (t17 : List (Int)) (t90 : Int) (t91 : Int) : Tryd.m11_100028 t5 t17 t90 t91 =
  if (decide (t91 < t90)) = true then
   (Tryd.m18 (t5) (t91)).bind fun y3 =>
    if (decide ((0 : Int) ≤ t91 ∧ t91 < I t17.length)) = true then
    if (decide (t91.toNat < t17.length)) = true then
    if (inR (t91 + (1 : Int))) = true then
    Tryd.m11_100028 (t5) (t17.set t91.toNat y3.fst.fst) (t90) (t91 + (1 : Int))
    else none
    else none
    else none
  else
   some ((t17, ()), ()) := Env.cut_eq' (E := Tryd.m11.E) (f0 := 3000) (c := 100028) (q := ⟨[[0, 0, 0, 0, 1, 0, 1, 1, 1, 1, 1, 1, 2, 0, 1], [0, 1, 0, 0, 1, 0, 1, 1, 1, 1, 1, 1, 2, 0, 1], [2, 0, 0, 1, 0, 1, 1, 1, 1, 1, 1, 2, 0, 1], [1, 6], [0, 1, 1, 1, 1, 1, 1, 1, 2, 0, 1], [3, 0, 1]], [5, 17, 90, 91], 0, ⟨[.own 0 3, .own 0 3, .fd (.int .i64), .fd (.int .i64)], []⟩⟩) (by kernel_rfl) ((t5, t17, t90, t91, ()), ()) (by kernel_rfl) (by kernel_rfl)

def Tryd.m13.p : Pln := ⟨[], 0, ⟨[.fd (.sl 4), .fd (.sl 5), .fd (.int .i64), .fd (.int .i64)], []⟩, ⟨[.fd .bool], []⟩, true, [(4, ⟨[(0, true), (1, true), (2, false), (3, false), (4, true), (5, true), (6, false), (7, false), (8, true), (9, true)], [], [0, 0, 3, 7, 0, 0, 48, 112, 255, 511], false⟩)], []⟩
noncomputable def Tryd.m13.E : Env En.Dop.D18 := envOf Tryd.prog 13 Tryd.tb [Tryd.m11.c] Tryd.m13.p
theorem Tryd.m13.ok : plnOk En.Dop.D18 Tryd.prog 13 Tryd.m13.p = true := by kernel_rfl
noncomputable def Tryd.m13.c : Ctr En.Dop.D18 := ⟨13, Tryd.m13.p.bn, Tryd.m13.p.sp, Tryd.m13.p.rs, Tryd.m13.p.flat, .opt (Tryd.m13.E.run 3000 Tryd.m13.p.sp)⟩
theorem Tryd.m13.holds : Tryd.m13.c.Holds Tryd.prog := fun_ctr 3000 Tryd.tbOk (hct_cons Tryd.m11.holds hct_nil) Tryd.m13.ok
noncomputable def Tryd.m13 (l : List (En.Dop.Nod)) (pairs : List (En.Dop.Pr)) (a : Int) (b : Int) : Option (Spec.D En.Dop.D18 ⟨[.fd .bool], []⟩) := Tryd.m13.E.run 3000 Tryd.m13.p.sp ((l, pairs, a, b, ()), ())
theorem Tryd.m13_eq (l : List (En.Dop.Nod)) (pairs : List (En.Dop.Pr)) (a : Int) (b : Int) : Tryd.m13 l pairs a b =
  if (decide (a < (0 : Int))) = true then
   some ((false, ()), ())
  else
   if (decide (I l.length ≤ a)) = true then
    some ((false, ()), ())
   else
    if (decide (b < (0 : Int))) = true then
     some ((false, ()), ())
    else
     if (decide (I l.length ≤ b)) = true then
      some ((false, ()), ())
     else
      (Tryd.m11 (l) (pairs)).bind fun y6 =>
       if (decide ((0 : Int) ≤ a ∧ a < I y6.fst.fst.length)) = true then
       if (decide (a.toNat < y6.fst.fst.length)) = true then
       if (decide ((0 : Int) ≤ b ∧ b < I y6.fst.fst.length)) = true then
       if (decide (b.toNat < y6.fst.fst.length)) = true then
       some ((decide (@List.getD Int y6.fst.fst a.toNat (0 : Int) = @List.getD Int y6.fst.fst b.toNat (0 : Int)), ()), ())
       else none
       else none
       else none
       else none := by kernel_rfl

def Tryd.m9.p : Pln := ⟨[], 0, ⟨[], []⟩, ⟨[.fd .bool], []⟩, true, [], []⟩
noncomputable def Tryd.m9.E : Env En.Dop.D18 := envOf Tryd.prog 9 Tryd.tb [Tryd.m13.c, Tryd.m11.c] Tryd.m9.p
theorem Tryd.m9.ok : plnOk En.Dop.D18 Tryd.prog 9 Tryd.m9.p = true := by kernel_rfl
noncomputable def Tryd.m9.c : Ctr En.Dop.D18 := ⟨9, Tryd.m9.p.bn, Tryd.m9.p.sp, Tryd.m9.p.rs, Tryd.m9.p.flat, .opt (Tryd.m9.E.run 3000 Tryd.m9.p.sp)⟩
theorem Tryd.m9.holds : Tryd.m9.c.Holds Tryd.prog := fun_ctr 3000 Tryd.tbOk (hct_cons Tryd.m13.holds (hct_cons Tryd.m11.holds hct_nil)) Tryd.m9.ok
noncomputable def Tryd.m9 : Option (Spec.D En.Dop.D18 ⟨[.fd .bool], []⟩) := Tryd.m9.E.run 3000 Tryd.m9.p.sp ((), ())
theorem Tryd.m9_eq : Tryd.m9 =
  (Tryd.m13 (Dop.Nod.mk ((97 : UInt8) :: @List.nil UInt8) (@List.nil Int) :: Dop.Nod.mk ((98 : UInt8) :: @List.nil UInt8) (@List.nil Int) :: Dop.Nod.mk ((102 : UInt8) :: @List.nil UInt8) ((0 : Int) :: @List.nil Int) :: Dop.Nod.mk ((102 : UInt8) :: @List.nil UInt8) ((1 : Int) :: @List.nil Int) :: @List.nil Dop.Nod) (Dop.Pr.mk (0 : Int) (1 : Int) :: @List.nil Dop.Pr) ((2 : Int)) ((3 : Int))).bind fun y2 =>
   if (y2.fst.fst) = true then
    (Tryd.m13 (Dop.Nod.mk ((97 : UInt8) :: @List.nil UInt8) (@List.nil Int) :: Dop.Nod.mk ((98 : UInt8) :: @List.nil UInt8) (@List.nil Int) :: Dop.Nod.mk ((102 : UInt8) :: @List.nil UInt8) ((0 : Int) :: @List.nil Int) :: Dop.Nod.mk ((102 : UInt8) :: @List.nil UInt8) ((1 : Int) :: @List.nil Int) :: @List.nil Dop.Nod) (@List.nil Dop.Pr) ((2 : Int)) ((3 : Int))).bind fun y4 =>
     if (!y4.fst.fst) = true then
      (Tryd.m11 (Dop.Nod.mk ((97 : UInt8) :: @List.nil UInt8) (@List.nil Int) :: Dop.Nod.mk ((98 : UInt8) :: @List.nil UInt8) (@List.nil Int) :: Dop.Nod.mk ((102 : UInt8) :: @List.nil UInt8) ((0 : Int) :: @List.nil Int) :: Dop.Nod.mk ((102 : UInt8) :: @List.nil UInt8) ((1 : Int) :: @List.nil Int) :: @List.nil Dop.Nod) (@List.nil Dop.Pr)).bind fun y6 =>
       some ((decide (I y6.fst.fst.length = (4 : Int)), ()), ())
     else
      some ((false, ()), ())
   else
    some ((false, ()), ()) := by kernel_rfl

def Tryd.m10.p : Pln := ⟨[(3, ⟨[[0, 0, 0, 0, 0, 1, 0, 1, 1], [0, 1, 0, 0, 0, 1, 0, 1, 1], [0, 1, 0, 0, 1, 0, 1, 1], [2, 0, 0, 1, 0, 1, 1], [1, 0], [0, 1, 1, 1]], [0, 1, 5, 6], 0, ⟨[.fd (.sl 3), .fd (.sl 5), .dp 6 32, .fd (.int .i64)], []⟩⟩), (9, ⟨[[0, 0, 0, 0, 0, 1, 0, 1, 1, 1], [0, 1, 0, 0, 0, 1, 0, 1, 1, 1], [0, 1, 0, 0, 1, 0, 1, 1, 1], [2, 0, 0, 1, 0, 1, 1, 1], [1, 2], [0, 1, 1, 1, 1]], [0, 1, 5, 8], 0, ⟨[.fd (.sl 3), .fd (.sl 5), .dp 6 32, .fd (.int .i64)], []⟩⟩), (17, ⟨[[0, 0, 0, 0, 0, 0, 1, 1, 1, 1, 1], [0, 1, 0, 0, 0, 0, 1, 1, 1, 1, 1], [0, 1, 0, 0, 0, 1, 1, 1, 1, 1], [2, 0, 0, 0, 1, 1, 1, 1, 1], [1, 4], [0, 1, 1, 1, 1, 1, 1]], [0, 5, 11], 0, ⟨[.fd (.sl 3), .dp 6 32, .fd .bool], []⟩⟩), (20, ⟨[[0, 0, 0, 0, 0, 1, 1, 0, 1, 0, 0, 0, 1, 1, 1, 1, 1], [0, 1, 0, 0, 0, 1, 1, 0, 1, 0, 0, 0, 1, 1, 1, 1, 1], [0, 1, 0, 0, 1, 1, 0, 1, 0, 0, 0, 1, 1, 1, 1, 1], [2, 0, 0, 1, 1, 0, 1, 0, 0, 0, 1, 1, 1, 1, 1], [1, 6], [1, 5], [2, 0, 0, 0, 1, 1, 1, 1, 1], [1, 4], [0, 1, 1, 1, 1, 1, 1]], [0, 5, 11, 12], 0, ⟨[.fd (.sl 3), .dp 6 32, .fd .bool, .fd (.int .i64)], []⟩⟩), (23, ⟨[[0, 0, 0, 0, 0, 1, 0, 0, 1, 0, 0, 1, 1, 0, 1, 0, 0, 0, 1, 1, 1, 1, 1], [0, 1, 0, 0, 0, 1, 0, 0, 1, 0, 0, 1, 1, 0, 1, 0, 0, 0, 1, 1, 1, 1, 1], [0, 1, 0, 0, 1, 0, 0, 1, 0, 0, 1, 1, 0, 1, 0, 0, 0, 1, 1, 1, 1, 1], [2, 0, 0, 1, 0, 0, 1, 0, 0, 1, 1, 0, 1, 0, 0, 0, 1, 1, 1, 1, 1], [1, 8], [1, 7], [0, 1, 1, 0, 0, 1, 1, 0, 1, 0, 0, 0, 1, 1, 1, 1, 1], [2, 0, 0, 1, 1, 0, 1, 0, 0, 0, 1, 1, 1, 1, 1], [1, 6], [1, 5], [2, 0, 0, 0, 1, 1, 1, 1, 1], [1, 4], [0, 1, 1, 1, 1, 1, 1]], [0, 5, 11, 12, 13], 0, ⟨[.fd (.sl 3), .dp 6 32, .fd .bool, .fd (.int .i64), .fd (.int .i64)], []⟩⟩), (28, ⟨[[0, 0, 0, 0, 0, 1, 0, 1, 1, 0, 0, 1, 0, 0, 1, 0, 0, 1, 0, 0, 1, 1, 0, 1, 0, 0, 0, 1, 1, 1, 1, 1], [0, 1, 0, 0, 0, 1, 0, 1, 1, 0, 0, 1, 0, 0, 1, 0, 0, 1, 0, 0, 1, 1, 0, 1, 0, 0, 0, 1, 1, 1, 1, 1], [0, 1, 0, 0, 1, 0, 1, 1, 0, 0, 1, 0, 0, 1, 0, 0, 1, 0, 0, 1, 1, 0, 1, 0, 0, 0, 1, 1, 1, 1, 1], [2, 0, 0, 1, 0, 1, 1, 0, 0, 1, 0, 0, 1, 0, 0, 1, 0, 0, 1, 1, 0, 1, 0, 0, 0, 1, 1, 1, 1, 1], [1, 10], [0, 1, 1, 1, 0, 0, 1, 0, 0, 1, 0, 0, 1, 0, 0, 1, 1, 0, 1, 0, 0, 0, 1, 1, 1, 1, 1], [1, 9], [0, 1, 1, 0, 0, 1, 0, 0, 1, 0, 0, 1, 1, 0, 1, 0, 0, 0, 1, 1, 1, 1, 1], [2, 0, 0, 1, 0, 0, 1, 0, 0, 1, 1, 0, 1, 0, 0, 0, 1, 1, 1, 1, 1], [1, 8], [1, 7], [0, 1, 1, 0, 0, 1, 1, 0, 1, 0, 0, 0, 1, 1, 1, 1, 1], [2, 0, 0, 1, 1, 0, 1, 0, 0, 0, 1, 1, 1, 1, 1], [1, 6], [1, 5], [2, 0, 0, 0, 1, 1, 1, 1, 1], [1, 4], [0, 1, 1, 1, 1, 1, 1]], [0, 5, 11, 12, 13, 14, 15], 0, ⟨[.fd (.sl 3), .dp 6 32, .fd .bool, .fd (.int .i64), .fd (.int .i64), .fd .bool, .fd (.int .i64)], []⟩⟩), (34, ⟨[[0, 0, 0, 0, 0, 1, 0, 1, 0, 1, 0, 1, 1, 1, 0, 0, 1, 0, 0, 1, 0, 0, 1, 0, 0, 1, 1, 0, 1, 0, 0, 0, 1, 1, 1, 1, 1], [0, 1, 0, 0, 0, 1, 0, 1, 0, 1, 0, 1, 1, 1, 0, 0, 1, 0, 0, 1, 0, 0, 1, 0, 0, 1, 1, 0, 1, 0, 0, 0, 1, 1, 1, 1, 1], [0, 1, 0, 0, 1, 0, 1, 0, 1, 0, 1, 1, 1, 0, 0, 1, 0, 0, 1, 0, 0, 1, 0, 0, 1, 1, 0, 1, 0, 0, 0, 1, 1, 1, 1, 1], [2, 0, 0, 1, 0, 1, 0, 1, 0, 1, 1, 1, 0, 0, 1, 0, 0, 1, 0, 0, 1, 0, 0, 1, 1, 0, 1, 0, 0, 0, 1, 1, 1, 1, 1], [1, 12], [0, 1, 1, 0, 1, 0, 1, 1, 1, 0, 0, 1, 0, 0, 1, 0, 0, 1, 0, 0, 1, 1, 0, 1, 0, 0, 0, 1, 1, 1, 1, 1], [0, 1, 1, 1, 1, 0, 0, 1, 0, 0, 1, 0, 0, 1, 0, 0, 1, 1, 0, 1, 0, 0, 0, 1, 1, 1, 1, 1], [1, 9], [0, 1, 1, 0, 0, 1, 0, 0, 1, 0, 0, 1, 1, 0, 1, 0, 0, 0, 1, 1, 1, 1, 1], [2, 0, 0, 1, 0, 0, 1, 0, 0, 1, 1, 0, 1, 0, 0, 0, 1, 1, 1, 1, 1], [1, 8], [1, 7], [0, 1, 1, 0, 0, 1, 1, 0, 1, 0, 0, 0, 1, 1, 1, 1, 1], [2, 0, 0, 1, 1, 0, 1, 0, 0, 0, 1, 1, 1, 1, 1], [1, 6], [1, 5], [2, 0, 0, 0, 1, 1, 1, 1, 1], [1, 4], [0, 1, 1, 1, 1, 1, 1]], [0, 5, 11, 12, 13, 14, 16, 17], 0, ⟨[.fd (.sl 3), .dp 6 32, .fd .bool, .fd (.int .i64), .fd (.int .i64), .fd .bool, .fd .bool, .fd (.int .i64)], []⟩⟩)], 0, ⟨[.fd (.sl 3), .fd (.sl 5)], []⟩, ⟨[.dp 6 32], []⟩, false, [(31, ⟨[(0, true), (1, true), (2, false), (3, false), (4, false), (5, true), (6, true), (7, false), (8, false), (9, false), (10, true), (11, true), (12, true), (13, true), (14, false), (15, false), (16, false), (17, false), (18, true), (19, true), (20, false), (21, false), (22, false), (23, false), (24, true), (25, true)], [], [0, 0, 3, 7, 15, 0, 0, 96, 224, 480, 1023, 2047, 4095, 4095, 16383, 32767, 65535, 131071, 4095, 4095, 790527, 1839103, 3936255, 8130559, 16777215, 33554431], false⟩), (36, ⟨[(0, true), (1, true), (2, true), (3, true), (4, true), (5, false), (6, false), (7, false), (8, true), (9, false), (10, false), (11, true), (12, true), (13, false), (14, false), (15, false), (16, true), (17, false), (18, false)], [19, 20, 21], [0, 1, 3, 3, 3, 27, 59, 123, 3, 507, 1019, 3, 3, 6147, 14339, 30723, 3, 129027, 260099, 524287, 1048575, 2097151], false⟩)], [(14, [])]⟩
noncomputable def Tryd.m10.E : Env En.Dop.D18 := envOf Tryd.prog 10 Tryd.tb [] Tryd.m10.p
theorem Tryd.m10.ok : plnOk En.Dop.D18 Tryd.prog 10 Tryd.m10.p = true := by kernel_rfl
noncomputable def Tryd.m10.c : Ctr En.Dop.D18 := ⟨10, Tryd.m10.p.bn, Tryd.m10.p.sp, Tryd.m10.p.rs, Tryd.m10.p.flat, .opt (Tryd.m10.E.run 3000 Tryd.m10.p.sp)⟩
theorem Tryd.m10.holds : Tryd.m10.c.Holds Tryd.prog := fun_ctr 3000 Tryd.tbOk hct_nil Tryd.m10.ok
noncomputable def Tryd.m10 (o : List (En.Dop.Rno)) (t1 : List (En.Dop.Pr)) : Option (Spec.D En.Dop.D18 ⟨[.dp 6 32], []⟩) := Tryd.m10.E.run 3000 Tryd.m10.p.sp ((o, t1, ()), ())
noncomputable def Tryd.m10_3 (o : List (En.Dop.Rno)) (t1 : List (En.Dop.Pr)) (t5 : List (List (Bool))) (t6 : Int) : Option (Spec.D En.Dop.D18 ⟨[.dp 6 32], []⟩) := Tryd.m10.E.cut 3000 3 ((o, t1, t5, t6, ()), ())
noncomputable def Tryd.m10_9 (o : List (En.Dop.Rno)) (t1 : List (En.Dop.Pr)) (t5 : List (List (Bool))) (t8 : Int) : Option (Spec.D En.Dop.D18 ⟨[.dp 6 32], []⟩) := Tryd.m10.E.cut 3000 9 ((o, t1, t5, t8, ()), ())
noncomputable def Tryd.m10_17 (o : List (En.Dop.Rno)) (t5 : List (List (Bool))) (t11 : Bool) : Option (Spec.D En.Dop.D18 ⟨[.dp 6 32], []⟩) := Tryd.m10.E.cut 3000 17 ((o, t5, t11, ()), ())
noncomputable def Tryd.m10_20 (o : List (En.Dop.Rno)) (t5 : List (List (Bool))) (t11 : Bool) (t12 : Int) : Option (Spec.D En.Dop.D18 ⟨[.dp 6 32], []⟩) := Tryd.m10.E.cut 3000 20 ((o, t5, t11, t12, ()), ())
noncomputable def Tryd.m10_23 (o : List (En.Dop.Rno)) (t5 : List (List (Bool))) (t11 : Bool) (t12 : Int) (t13 : Int) : Option (Spec.D En.Dop.D18 ⟨[.dp 6 32], []⟩) := Tryd.m10.E.cut 3000 23 ((o, t5, t11, t12, t13, ()), ())
noncomputable def Tryd.m10_28 (o : List (En.Dop.Rno)) (t5 : List (List (Bool))) (t11 : Bool) (t12 : Int) (t13 : Int) (t14 : Bool) (t15 : Int) : Option (Spec.D En.Dop.D18 ⟨[.dp 6 32], []⟩) := Tryd.m10.E.cut 3000 28 ((o, t5, t11, t12, t13, t14, t15, ()), ())
noncomputable def Tryd.m10_34 (o : List (En.Dop.Rno)) (t5 : List (List (Bool))) (t11 : Bool) (t12 : Int) (t13 : Int) (t14 : Bool) (t16 : Bool) (t17 : Int) : Option (Spec.D En.Dop.D18 ⟨[.dp 6 32], []⟩) := Tryd.m10.E.cut 3000 34 ((o, t5, t11, t12, t13, t14, t16, t17, ()), ())
theorem Tryd.m10_eq (o : List (En.Dop.Rno)) (t1 : List (En.Dop.Pr)) : Tryd.m10 o t1 =
  Tryd.m10_3 (o) (t1) (@List.nil (List Bool)) ((0 : Int)) := by kernel_rfl
theorem Tryd.m10_3_eq (o : List (En.Dop.Rno)) (t1 : List (En.Dop.Pr)) (t5 : List (List (Bool))) (t6 : Int) : Tryd.m10_3 o t1 t5 t6 =
  if (decide (t6 < I o.length)) = true then
   if (decide ((0 : Int) ≤ I o.length ∧ I o.length ≤ I o.length ∧ I o.length * (I (1 : Nat) + (1 : Int)) ≤ (140737488355328 : Int))) = true then
   if (decide ((0 : Int) ≤ t6 ∧ t6 < I (List.replicate (I o.length).toNat false).length)) = true then
   if (decide (t6.toNat < (List.replicate (I o.length).toNat false).length)) = true then
   if (room (24 : Nat) (t5.length + ((List.replicate (I o.length).toNat false).set t6.toNat true :: @List.nil (List Bool)).length)) = true then
   if (inR (t6 + (1 : Int))) = true then
   Tryd.m10_3 (o) (t1) (t5 ++ (List.replicate (I o.length).toNat false).set t6.toNat true :: @List.nil (List Bool)) (t6 + (1 : Int))
   else none
   else none
   else none
   else none
   else none
  else
   Tryd.m10_9 (o) (t1) (t5) ((0 : Int)) := Env.cut_eq' (E := Tryd.m10.E) (f0 := 3000) (c := 3) (q := ⟨[[0, 0, 0, 0, 0, 1, 0, 1, 1], [0, 1, 0, 0, 0, 1, 0, 1, 1], [0, 1, 0, 0, 1, 0, 1, 1], [2, 0, 0, 1, 0, 1, 1], [1, 0], [0, 1, 1, 1]], [0, 1, 5, 6], 0, ⟨[.fd (.sl 3), .fd (.sl 5), .dp 6 32, .fd (.int .i64)], []⟩⟩) (by kernel_rfl) ((o, t1, t5, t6, ()), ()) (by kernel_rfl) (by kernel_rfl)
theorem Tryd.m10_9_eq (o : List (En.Dop.Rno)) (t1 : List (En.Dop.Pr)) (t5 : List (List (Bool))) (t8 : Int) : Tryd.m10_9 o t1 t5 t8 =
  if (decide (t8 < I t1.length)) = true then
   if (decide ((0 : Int) ≤ t8 ∧ t8 < I t1.length)) = true then
   if (decide ((0 : Int) ≤ (0 : Int) ∧ (0 : Int) < I (2 : Nat))) = true then
   if (decide ((0 : Int) ≤ t8 ∧ t8 < I t1.length)) = true then
   if (decide ((0 : Int) ≤ (1 : Int) ∧ (1 : Int) < I (2 : Nat))) = true then
   if (decide ((0 : Int) ≤ (@List.getD Dop.Pr t1 t8.toNat Dop.d5).x0)) = true then
    if (decide ((0 : Int) ≤ (@List.getD Dop.Pr t1 t8.toNat Dop.d5).x1)) = true then
     if (decide ((@List.getD Dop.Pr t1 t8.toNat Dop.d5).x0 < I o.length)) = true then
      if (decide ((@List.getD Dop.Pr t1 t8.toNat Dop.d5).x1 < I o.length)) = true then
       if (decide ((0 : Int) ≤ (@List.getD Dop.Pr t1 t8.toNat Dop.d5).x0 ∧ (@List.getD Dop.Pr t1 t8.toNat Dop.d5).x0 < I t5.length)) = true then
       if (decide ((@List.getD Dop.Pr t1 t8.toNat Dop.d5).x0.toNat < t5.length)) = true then
       if (decide ((@List.getD Dop.Pr t1 t8.toNat Dop.d5).x0.toNat < t5.length ∧ (0 : Int) ≤ (@List.getD Dop.Pr t1 t8.toNat Dop.d5).x1 ∧ (@List.getD Dop.Pr t1 t8.toNat Dop.d5).x1 < I (@List.getD (List Bool) t5 (@List.getD Dop.Pr t1 t8.toNat Dop.d5).x0.toNat (@List.nil Bool)).length)) = true then
       if (decide ((@List.getD Dop.Pr t1 t8.toNat Dop.d5).x0.toNat < t5.length ∧ (@List.getD Dop.Pr t1 t8.toNat Dop.d5).x1.toNat < (@List.getD (List Bool) t5 (@List.getD Dop.Pr t1 t8.toNat Dop.d5).x0.toNat (@List.nil Bool)).length)) = true then
       if (decide ((0 : Int) ≤ (@List.getD Dop.Pr t1 t8.toNat Dop.d5).x1 ∧ (@List.getD Dop.Pr t1 t8.toNat Dop.d5).x1 < I (t5.set (@List.getD Dop.Pr t1 t8.toNat Dop.d5).x0.toNat ((@List.getD (List Bool) t5 (@List.getD Dop.Pr t1 t8.toNat Dop.d5).x0.toNat (@List.nil Bool)).set (@List.getD Dop.Pr t1 t8.toNat Dop.d5).x1.toNat true)).length)) = true then
       if (decide ((@List.getD Dop.Pr t1 t8.toNat Dop.d5).x1.toNat < (t5.set (@List.getD Dop.Pr t1 t8.toNat Dop.d5).x0.toNat ((@List.getD (List Bool) t5 (@List.getD Dop.Pr t1 t8.toNat Dop.d5).x0.toNat (@List.nil Bool)).set (@List.getD Dop.Pr t1 t8.toNat Dop.d5).x1.toNat true)).length)) = true then
       if (decide ((@List.getD Dop.Pr t1 t8.toNat Dop.d5).x1.toNat < (t5.set (@List.getD Dop.Pr t1 t8.toNat Dop.d5).x0.toNat ((@List.getD (List Bool) t5 (@List.getD Dop.Pr t1 t8.toNat Dop.d5).x0.toNat (@List.nil Bool)).set (@List.getD Dop.Pr t1 t8.toNat Dop.d5).x1.toNat true)).length ∧ (0 : Int) ≤ (@List.getD Dop.Pr t1 t8.toNat Dop.d5).x0 ∧ (@List.getD Dop.Pr t1 t8.toNat Dop.d5).x0 < I ((t5.set (@List.getD Dop.Pr t1 t8.toNat Dop.d5).x0.toNat ((@List.getD (List Bool) t5 (@List.getD Dop.Pr t1 t8.toNat Dop.d5).x0.toNat (@List.nil Bool)).set (@List.getD Dop.Pr t1 t8.toNat Dop.d5).x1.toNat true)).getD (@List.getD Dop.Pr t1 t8.toNat Dop.d5).x1.toNat (@List.nil Bool)).length)) = true then
       if (decide ((@List.getD Dop.Pr t1 t8.toNat Dop.d5).x1.toNat < (t5.set (@List.getD Dop.Pr t1 t8.toNat Dop.d5).x0.toNat ((@List.getD (List Bool) t5 (@List.getD Dop.Pr t1 t8.toNat Dop.d5).x0.toNat (@List.nil Bool)).set (@List.getD Dop.Pr t1 t8.toNat Dop.d5).x1.toNat true)).length ∧ (@List.getD Dop.Pr t1 t8.toNat Dop.d5).x0.toNat < ((t5.set (@List.getD Dop.Pr t1 t8.toNat Dop.d5).x0.toNat ((@List.getD (List Bool) t5 (@List.getD Dop.Pr t1 t8.toNat Dop.d5).x0.toNat (@List.nil Bool)).set (@List.getD Dop.Pr t1 t8.toNat Dop.d5).x1.toNat true)).getD (@List.getD Dop.Pr t1 t8.toNat Dop.d5).x1.toNat (@List.nil Bool)).length)) = true then
       if (inR (t8 + (1 : Int))) = true then
       Tryd.m10_9 (o) (t1) ((t5.set (@List.getD Dop.Pr t1 t8.toNat Dop.d5).x0.toNat ((@List.getD (List Bool) t5 (@List.getD Dop.Pr t1 t8.toNat Dop.d5).x0.toNat (@List.nil Bool)).set (@List.getD Dop.Pr t1 t8.toNat Dop.d5).x1.toNat true)).set (@List.getD Dop.Pr t1 t8.toNat Dop.d5).x1.toNat (((t5.set (@List.getD Dop.Pr t1 t8.toNat Dop.d5).x0.toNat ((@List.getD (List Bool) t5 (@List.getD Dop.Pr t1 t8.toNat Dop.d5).x0.toNat (@List.nil Bool)).set (@List.getD Dop.Pr t1 t8.toNat Dop.d5).x1.toNat true)).getD (@List.getD Dop.Pr t1 t8.toNat Dop.d5).x1.toNat (@List.nil Bool)).set (@List.getD Dop.Pr t1 t8.toNat Dop.d5).x0.toNat true)) (t8 + (1 : Int))
       else none
       else none
       else none
       else none
       else none
       else none
       else none
       else none
       else none
      else
       if (inR (t8 + (1 : Int))) = true then
       Tryd.m10_9 (o) (t1) (t5) (t8 + (1 : Int))
       else none
     else
      if (inR (t8 + (1 : Int))) = true then
      Tryd.m10_9 (o) (t1) (t5) (t8 + (1 : Int))
      else none
    else
     if (inR (t8 + (1 : Int))) = true then
     Tryd.m10_9 (o) (t1) (t5) (t8 + (1 : Int))
     else none
   else
    if (inR (t8 + (1 : Int))) = true then
    Tryd.m10_9 (o) (t1) (t5) (t8 + (1 : Int))
    else none
   else none
   else none
   else none
   else none
  else
   Tryd.m10_17 (o) (t5) (true) := Env.cut_eq' (E := Tryd.m10.E) (f0 := 3000) (c := 9) (q := ⟨[[0, 0, 0, 0, 0, 1, 0, 1, 1, 1], [0, 1, 0, 0, 0, 1, 0, 1, 1, 1], [0, 1, 0, 0, 1, 0, 1, 1, 1], [2, 0, 0, 1, 0, 1, 1, 1], [1, 2], [0, 1, 1, 1, 1]], [0, 1, 5, 8], 0, ⟨[.fd (.sl 3), .fd (.sl 5), .dp 6 32, .fd (.int .i64)], []⟩⟩) (by kernel_rfl) ((o, t1, t5, t8, ()), ()) (by kernel_rfl) (by kernel_rfl)
theorem Tryd.m10_17_eq (o : List (En.Dop.Rno)) (t5 : List (List (Bool))) (t11 : Bool) : Tryd.m10_17 o t5 t11 =
  if (t11) = true then
   Tryd.m10_20 (o) (t5) (false) ((0 : Int))
  else
   some ((t5, ()), ()) := Env.cut_eq' (E := Tryd.m10.E) (f0 := 3000) (c := 17) (q := ⟨[[0, 0, 0, 0, 0, 0, 1, 1, 1, 1, 1], [0, 1, 0, 0, 0, 0, 1, 1, 1, 1, 1], [0, 1, 0, 0, 0, 1, 1, 1, 1, 1], [2, 0, 0, 0, 1, 1, 1, 1, 1], [1, 4], [0, 1, 1, 1, 1, 1, 1]], [0, 5, 11], 0, ⟨[.fd (.sl 3), .dp 6 32, .fd .bool], []⟩⟩) (by kernel_rfl) ((o, t5, t11, ()), ()) (by kernel_rfl) (by kernel_rfl)
theorem Tryd.m10_20_eq (o : List (En.Dop.Rno)) (t5 : List (List (Bool))) (t11 : Bool) (t12 : Int) : Tryd.m10_20 o t5 t11 t12 =
  if (decide (t12 < I o.length)) = true then
   Tryd.m10_23 (o) (t5) (t11) (t12) ((0 : Int))
  else
   Tryd.m10_17 (o) (t5) (t11) := Env.cut_eq' (E := Tryd.m10.E) (f0 := 3000) (c := 20) (q := ⟨[[0, 0, 0, 0, 0, 1, 1, 0, 1, 0, 0, 0, 1, 1, 1, 1, 1], [0, 1, 0, 0, 0, 1, 1, 0, 1, 0, 0, 0, 1, 1, 1, 1, 1], [0, 1, 0, 0, 1, 1, 0, 1, 0, 0, 0, 1, 1, 1, 1, 1], [2, 0, 0, 1, 1, 0, 1, 0, 0, 0, 1, 1, 1, 1, 1], [1, 6], [1, 5], [2, 0, 0, 0, 1, 1, 1, 1, 1], [1, 4], [0, 1, 1, 1, 1, 1, 1]], [0, 5, 11, 12], 0, ⟨[.fd (.sl 3), .dp 6 32, .fd .bool, .fd (.int .i64)], []⟩⟩) (by kernel_rfl) ((o, t5, t11, t12, ()), ()) (by kernel_rfl) (by kernel_rfl)
theorem Tryd.m10_23_eq (o : List (En.Dop.Rno)) (t5 : List (List (Bool))) (t11 : Bool) (t12 : Int) (t13 : Int) : Tryd.m10_23 o t5 t11 t12 t13 =
  if (decide (t13 < I o.length)) = true then
   if (decide ((0 : Int) ≤ t12 ∧ t12 < I t5.length)) = true then
   if (decide (t12.toNat < t5.length)) = true then
   if (decide (t12.toNat < t5.length ∧ (0 : Int) ≤ t13 ∧ t13 < I (@List.getD (List Bool) t5 t12.toNat (@List.nil Bool)).length)) = true then
   if (decide (t12.toNat < t5.length) && decide (t13.toNat < (@List.getD (List Bool) t5 t12.toNat (@List.nil Bool)).length)) = true then
   if ((@List.getD (List Bool) t5 t12.toNat (@List.nil Bool)).getD t13.toNat false) = true then
    if (inR (t13 + (1 : Int))) = true then
    Tryd.m10_23 (o) (t5) (t11) (t12) (t13 + (1 : Int))
    else none
   else
    if (decide ((0 : Int) ≤ t13 ∧ t13 < I t5.length)) = true then
    if (decide (t13.toNat < t5.length)) = true then
    if (decide (t13.toNat < t5.length ∧ (0 : Int) ≤ t12 ∧ t12 < I (@List.getD (List Bool) t5 t13.toNat (@List.nil Bool)).length)) = true then
    if (decide (t13.toNat < t5.length) && decide (t12.toNat < (@List.getD (List Bool) t5 t13.toNat (@List.nil Bool)).length)) = true then
    Tryd.m10_28 (o) (t5) (t11) (t12) (t13) ((@List.getD (List Bool) t5 t13.toNat (@List.nil Bool)).getD t12.toNat false) ((0 : Int))
    else none
    else none
    else none
    else none
   else none
   else none
   else none
   else none
  else
   if (inR (t12 + (1 : Int))) = true then
   Tryd.m10_20 (o) (t5) (t11) (t12 + (1 : Int))
   else none := Env.cut_eq' (E := Tryd.m10.E) (f0 := 3000) (c := 23) (q := ⟨[[0, 0, 0, 0, 0, 1, 0, 0, 1, 0, 0, 1, 1, 0, 1, 0, 0, 0, 1, 1, 1, 1, 1], [0, 1, 0, 0, 0, 1, 0, 0, 1, 0, 0, 1, 1, 0, 1, 0, 0, 0, 1, 1, 1, 1, 1], [0, 1, 0, 0, 1, 0, 0, 1, 0, 0, 1, 1, 0, 1, 0, 0, 0, 1, 1, 1, 1, 1], [2, 0, 0, 1, 0, 0, 1, 0, 0, 1, 1, 0, 1, 0, 0, 0, 1, 1, 1, 1, 1], [1, 8], [1, 7], [0, 1, 1, 0, 0, 1, 1, 0, 1, 0, 0, 0, 1, 1, 1, 1, 1], [2, 0, 0, 1, 1, 0, 1, 0, 0, 0, 1, 1, 1, 1, 1], [1, 6], [1, 5], [2, 0, 0, 0, 1, 1, 1, 1, 1], [1, 4], [0, 1, 1, 1, 1, 1, 1]], [0, 5, 11, 12, 13], 0, ⟨[.fd (.sl 3), .dp 6 32, .fd .bool, .fd (.int .i64), .fd (.int .i64)], []⟩⟩) (by kernel_rfl) ((o, t5, t11, t12, t13, ()), ()) (by kernel_rfl) (by kernel_rfl)
theorem Tryd.m10_28_eq (o : List (En.Dop.Rno)) (t5 : List (List (Bool))) (t11 : Bool) (t12 : Int) (t13 : Int) (t14 : Bool) (t15 : Int) : Tryd.m10_28 o t5 t11 t12 t13 t14 t15 =
  if (decide (t15 < I o.length)) = true then
   if (t14) = true then
    if (inR (t15 + (1 : Int))) = true then
    Tryd.m10_28 (o) (t5) (t11) (t12) (t13) (true) (t15 + (1 : Int))
    else none
   else
    if (decide ((0 : Int) ≤ t12 ∧ t12 < I t5.length)) = true then
    if (decide (t12.toNat < t5.length)) = true then
    if (decide (t12.toNat < t5.length ∧ (0 : Int) ≤ t15 ∧ t15 < I (@List.getD (List Bool) t5 t12.toNat (@List.nil Bool)).length)) = true then
    if (decide (t12.toNat < t5.length) && decide (t15.toNat < (@List.getD (List Bool) t5 t12.toNat (@List.nil Bool)).length)) = true then
    if ((@List.getD (List Bool) t5 t12.toNat (@List.nil Bool)).getD t15.toNat false) = true then
     if (decide ((0 : Int) ≤ t15 ∧ t15 < I t5.length)) = true then
     if (decide (t15.toNat < t5.length)) = true then
     if (decide (t15.toNat < t5.length ∧ (0 : Int) ≤ t13 ∧ t13 < I (@List.getD (List Bool) t5 t15.toNat (@List.nil Bool)).length)) = true then
     if (decide (t15.toNat < t5.length) && decide (t13.toNat < (@List.getD (List Bool) t5 t15.toNat (@List.nil Bool)).length)) = true then
     if (inR (t15 + (1 : Int))) = true then
     Tryd.m10_28 (o) (t5) (t11) (t12) (t13) ((@List.getD (List Bool) t5 t15.toNat (@List.nil Bool)).getD t13.toNat false) (t15 + (1 : Int))
     else none
     else none
     else none
     else none
     else none
    else
     if (inR (t15 + (1 : Int))) = true then
     Tryd.m10_28 (o) (t5) (t11) (t12) (t13) (false) (t15 + (1 : Int))
     else none
    else none
    else none
    else none
    else none
  else
   if (decide ((0 : Int) ≤ t12 ∧ t12 < I o.length)) = true then
   if (decide ((0 : Int) ≤ t13 ∧ t13 < I o.length)) = true then
   if (decide ((@List.getD Dop.Rno o t12.toNat Dop.d3).head = (@List.getD Dop.Rno o t13.toNat Dop.d3).head)) = true then
    if (decide ((0 : Int) ≤ t12 ∧ t12 < I o.length)) = true then
    if (decide ((0 : Int) ≤ t13 ∧ t13 < I o.length)) = true then
    if (decide (I (@List.getD Dop.Rno o t12.toNat Dop.d3).args.length = I (@List.getD Dop.Rno o t13.toNat Dop.d3).args.length)) = true then
     Tryd.m10_34 (o) (t5) (t11) (t12) (t13) (t14) (true) ((0 : Int))
    else
     if (t14) = true then
      if (decide ((0 : Int) ≤ t12 ∧ t12 < I t5.length)) = true then
      if (decide (t12.toNat < t5.length)) = true then
      if (decide (t12.toNat < t5.length ∧ (0 : Int) ≤ t13 ∧ t13 < I (@List.getD (List Bool) t5 t12.toNat (@List.nil Bool)).length)) = true then
      if (decide (t12.toNat < t5.length ∧ t13.toNat < (@List.getD (List Bool) t5 t12.toNat (@List.nil Bool)).length)) = true then
      if (inR (t13 + (1 : Int))) = true then
      Tryd.m10_23 (o) (t5.set t12.toNat ((@List.getD (List Bool) t5 t12.toNat (@List.nil Bool)).set t13.toNat true)) (true) (t12) (t13 + (1 : Int))
      else none
      else none
      else none
      else none
      else none
     else
      if (inR (t13 + (1 : Int))) = true then
      Tryd.m10_23 (o) (t5) (t11) (t12) (t13 + (1 : Int))
      else none
    else none
    else none
   else
    if (t14) = true then
     if (decide ((0 : Int) ≤ t12 ∧ t12 < I t5.length)) = true then
     if (decide (t12.toNat < t5.length)) = true then
     if (decide (t12.toNat < t5.length ∧ (0 : Int) ≤ t13 ∧ t13 < I (@List.getD (List Bool) t5 t12.toNat (@List.nil Bool)).length)) = true then
     if (decide (t12.toNat < t5.length ∧ t13.toNat < (@List.getD (List Bool) t5 t12.toNat (@List.nil Bool)).length)) = true then
     if (inR (t13 + (1 : Int))) = true then
     Tryd.m10_23 (o) (t5.set t12.toNat ((@List.getD (List Bool) t5 t12.toNat (@List.nil Bool)).set t13.toNat true)) (true) (t12) (t13 + (1 : Int))
     else none
     else none
     else none
     else none
     else none
    else
     if (inR (t13 + (1 : Int))) = true then
     Tryd.m10_23 (o) (t5) (t11) (t12) (t13 + (1 : Int))
     else none
   else none
   else none := Env.cut_eq' (E := Tryd.m10.E) (f0 := 3000) (c := 28) (q := ⟨[[0, 0, 0, 0, 0, 1, 0, 1, 1, 0, 0, 1, 0, 0, 1, 0, 0, 1, 0, 0, 1, 1, 0, 1, 0, 0, 0, 1, 1, 1, 1, 1], [0, 1, 0, 0, 0, 1, 0, 1, 1, 0, 0, 1, 0, 0, 1, 0, 0, 1, 0, 0, 1, 1, 0, 1, 0, 0, 0, 1, 1, 1, 1, 1], [0, 1, 0, 0, 1, 0, 1, 1, 0, 0, 1, 0, 0, 1, 0, 0, 1, 0, 0, 1, 1, 0, 1, 0, 0, 0, 1, 1, 1, 1, 1], [2, 0, 0, 1, 0, 1, 1, 0, 0, 1, 0, 0, 1, 0, 0, 1, 0, 0, 1, 1, 0, 1, 0, 0, 0, 1, 1, 1, 1, 1], [1, 10], [0, 1, 1, 1, 0, 0, 1, 0, 0, 1, 0, 0, 1, 0, 0, 1, 1, 0, 1, 0, 0, 0, 1, 1, 1, 1, 1], [1, 9], [0, 1, 1, 0, 0, 1, 0, 0, 1, 0, 0, 1, 1, 0, 1, 0, 0, 0, 1, 1, 1, 1, 1], [2, 0, 0, 1, 0, 0, 1, 0, 0, 1, 1, 0, 1, 0, 0, 0, 1, 1, 1, 1, 1], [1, 8], [1, 7], [0, 1, 1, 0, 0, 1, 1, 0, 1, 0, 0, 0, 1, 1, 1, 1, 1], [2, 0, 0, 1, 1, 0, 1, 0, 0, 0, 1, 1, 1, 1, 1], [1, 6], [1, 5], [2, 0, 0, 0, 1, 1, 1, 1, 1], [1, 4], [0, 1, 1, 1, 1, 1, 1]], [0, 5, 11, 12, 13, 14, 15], 0, ⟨[.fd (.sl 3), .dp 6 32, .fd .bool, .fd (.int .i64), .fd (.int .i64), .fd .bool, .fd (.int .i64)], []⟩⟩) (by kernel_rfl) ((o, t5, t11, t12, t13, t14, t15, ()), ()) (by kernel_rfl) (by kernel_rfl)
theorem Tryd.m10_34_eq (o : List (En.Dop.Rno)) (t5 : List (List (Bool))) (t11 : Bool) (t12 : Int) (t13 : Int) (t14 : Bool) (t16 : Bool) (t17 : Int) : Tryd.m10_34 o t5 t11 t12 t13 t14 t16 t17 =
  if (decide ((0 : Int) ≤ t12 ∧ t12 < I o.length)) = true then
  if (decide (t17 < I (@List.getD Dop.Rno o t12.toNat Dop.d3).args.length)) = true then
   if (t16) = true then
    if (decide ((0 : Int) ≤ t12 ∧ t12 < I o.length)) = true then
    if (decide ((0 : Int) ≤ t17 ∧ t17 < I (@List.getD Dop.Rno o t12.toNat Dop.d3).args.length)) = true then
    if (decide ((0 : Int) ≤ t13 ∧ t13 < I o.length)) = true then
    if (decide ((0 : Int) ≤ t17 ∧ t17 < I (@List.getD Dop.Rno o t13.toNat Dop.d3).args.length)) = true then
    if (decide (@List.getD Int (@List.getD Dop.Rno o t12.toNat Dop.d3).args t17.toNat (0 : Int) < (0 : Int))) = true then
     if (inR (t17 + (1 : Int))) = true then
     Tryd.m10_34 (o) (t5) (t11) (t12) (t13) (t14) (decide (@List.getD Int (@List.getD Dop.Rno o t12.toNat Dop.d3).args t17.toNat (0 : Int) = @List.getD Int (@List.getD Dop.Rno o t13.toNat Dop.d3).args t17.toNat (0 : Int))) (t17 + (1 : Int))
     else none
    else
     if (decide (@List.getD Int (@List.getD Dop.Rno o t13.toNat Dop.d3).args t17.toNat (0 : Int) < (0 : Int))) = true then
      if (inR (t17 + (1 : Int))) = true then
      Tryd.m10_34 (o) (t5) (t11) (t12) (t13) (t14) (decide (@List.getD Int (@List.getD Dop.Rno o t12.toNat Dop.d3).args t17.toNat (0 : Int) = @List.getD Int (@List.getD Dop.Rno o t13.toNat Dop.d3).args t17.toNat (0 : Int))) (t17 + (1 : Int))
      else none
     else
      if (decide (I t5.length ≤ @List.getD Int (@List.getD Dop.Rno o t12.toNat Dop.d3).args t17.toNat (0 : Int))) = true then
       if (inR (t17 + (1 : Int))) = true then
       Tryd.m10_34 (o) (t5) (t11) (t12) (t13) (t14) (decide (@List.getD Int (@List.getD Dop.Rno o t12.toNat Dop.d3).args t17.toNat (0 : Int) = @List.getD Int (@List.getD Dop.Rno o t13.toNat Dop.d3).args t17.toNat (0 : Int))) (t17 + (1 : Int))
       else none
      else
       if (decide (I t5.length ≤ @List.getD Int (@List.getD Dop.Rno o t13.toNat Dop.d3).args t17.toNat (0 : Int))) = true then
        if (inR (t17 + (1 : Int))) = true then
        Tryd.m10_34 (o) (t5) (t11) (t12) (t13) (t14) (decide (@List.getD Int (@List.getD Dop.Rno o t12.toNat Dop.d3).args t17.toNat (0 : Int) = @List.getD Int (@List.getD Dop.Rno o t13.toNat Dop.d3).args t17.toNat (0 : Int))) (t17 + (1 : Int))
        else none
       else
        if (decide ((0 : Int) ≤ @List.getD Int (@List.getD Dop.Rno o t12.toNat Dop.d3).args t17.toNat (0 : Int) ∧ @List.getD Int (@List.getD Dop.Rno o t12.toNat Dop.d3).args t17.toNat (0 : Int) < I t5.length)) = true then
        if (decide ((@List.getD Int (@List.getD Dop.Rno o t12.toNat Dop.d3).args t17.toNat (0 : Int)).toNat < t5.length)) = true then
        if (decide ((@List.getD Int (@List.getD Dop.Rno o t12.toNat Dop.d3).args t17.toNat (0 : Int)).toNat < t5.length ∧ (0 : Int) ≤ @List.getD Int (@List.getD Dop.Rno o t13.toNat Dop.d3).args t17.toNat (0 : Int) ∧ @List.getD Int (@List.getD Dop.Rno o t13.toNat Dop.d3).args t17.toNat (0 : Int) < I (@List.getD (List Bool) t5 (@List.getD Int (@List.getD Dop.Rno o t12.toNat Dop.d3).args t17.toNat (0 : Int)).toNat (@List.nil Bool)).length)) = true then
        if (decide ((@List.getD Int (@List.getD Dop.Rno o t12.toNat Dop.d3).args t17.toNat (0 : Int)).toNat < t5.length) && decide ((@List.getD Int (@List.getD Dop.Rno o t13.toNat Dop.d3).args t17.toNat (0 : Int)).toNat < (@List.getD (List Bool) t5 (@List.getD Int (@List.getD Dop.Rno o t12.toNat Dop.d3).args t17.toNat (0 : Int)).toNat (@List.nil Bool)).length)) = true then
        if (inR (t17 + (1 : Int))) = true then
        Tryd.m10_34 (o) (t5) (t11) (t12) (t13) (t14) ((@List.getD (List Bool) t5 (@List.getD Int (@List.getD Dop.Rno o t12.toNat Dop.d3).args t17.toNat (0 : Int)).toNat (@List.nil Bool)).getD (@List.getD Int (@List.getD Dop.Rno o t13.toNat Dop.d3).args t17.toNat (0 : Int)).toNat false) (t17 + (1 : Int))
        else none
        else none
        else none
        else none
        else none
    else none
    else none
    else none
    else none
   else
    if (inR (t17 + (1 : Int))) = true then
    Tryd.m10_34 (o) (t5) (t11) (t12) (t13) (t14) (false) (t17 + (1 : Int))
    else none
  else
   if (t14) = true then
    if (decide ((0 : Int) ≤ t12 ∧ t12 < I t5.length)) = true then
    if (decide (t12.toNat < t5.length)) = true then
    if (decide (t12.toNat < t5.length ∧ (0 : Int) ≤ t13 ∧ t13 < I (@List.getD (List Bool) t5 t12.toNat (@List.nil Bool)).length)) = true then
    if (decide (t12.toNat < t5.length ∧ t13.toNat < (@List.getD (List Bool) t5 t12.toNat (@List.nil Bool)).length)) = true then
    if (inR (t13 + (1 : Int))) = true then
    Tryd.m10_23 (o) (t5.set t12.toNat ((@List.getD (List Bool) t5 t12.toNat (@List.nil Bool)).set t13.toNat true)) (true) (t12) (t13 + (1 : Int))
    else none
    else none
    else none
    else none
    else none
   else
    if (t16) = true then
     if (decide ((0 : Int) ≤ t12 ∧ t12 < I t5.length)) = true then
     if (decide (t12.toNat < t5.length)) = true then
     if (decide (t12.toNat < t5.length ∧ (0 : Int) ≤ t13 ∧ t13 < I (@List.getD (List Bool) t5 t12.toNat (@List.nil Bool)).length)) = true then
     if (decide (t12.toNat < t5.length ∧ t13.toNat < (@List.getD (List Bool) t5 t12.toNat (@List.nil Bool)).length)) = true then
     if (inR (t13 + (1 : Int))) = true then
     Tryd.m10_23 (o) (t5.set t12.toNat ((@List.getD (List Bool) t5 t12.toNat (@List.nil Bool)).set t13.toNat true)) (true) (t12) (t13 + (1 : Int))
     else none
     else none
     else none
     else none
     else none
    else
     if (inR (t13 + (1 : Int))) = true then
     Tryd.m10_23 (o) (t5) (t11) (t12) (t13 + (1 : Int))
     else none
  else none := Env.cut_eq' (E := Tryd.m10.E) (f0 := 3000) (c := 34) (q := ⟨[[0, 0, 0, 0, 0, 1, 0, 1, 0, 1, 0, 1, 1, 1, 0, 0, 1, 0, 0, 1, 0, 0, 1, 0, 0, 1, 1, 0, 1, 0, 0, 0, 1, 1, 1, 1, 1], [0, 1, 0, 0, 0, 1, 0, 1, 0, 1, 0, 1, 1, 1, 0, 0, 1, 0, 0, 1, 0, 0, 1, 0, 0, 1, 1, 0, 1, 0, 0, 0, 1, 1, 1, 1, 1], [0, 1, 0, 0, 1, 0, 1, 0, 1, 0, 1, 1, 1, 0, 0, 1, 0, 0, 1, 0, 0, 1, 0, 0, 1, 1, 0, 1, 0, 0, 0, 1, 1, 1, 1, 1], [2, 0, 0, 1, 0, 1, 0, 1, 0, 1, 1, 1, 0, 0, 1, 0, 0, 1, 0, 0, 1, 0, 0, 1, 1, 0, 1, 0, 0, 0, 1, 1, 1, 1, 1], [1, 12], [0, 1, 1, 0, 1, 0, 1, 1, 1, 0, 0, 1, 0, 0, 1, 0, 0, 1, 0, 0, 1, 1, 0, 1, 0, 0, 0, 1, 1, 1, 1, 1], [0, 1, 1, 1, 1, 0, 0, 1, 0, 0, 1, 0, 0, 1, 0, 0, 1, 1, 0, 1, 0, 0, 0, 1, 1, 1, 1, 1], [1, 9], [0, 1, 1, 0, 0, 1, 0, 0, 1, 0, 0, 1, 1, 0, 1, 0, 0, 0, 1, 1, 1, 1, 1], [2, 0, 0, 1, 0, 0, 1, 0, 0, 1, 1, 0, 1, 0, 0, 0, 1, 1, 1, 1, 1], [1, 8], [1, 7], [0, 1, 1, 0, 0, 1, 1, 0, 1, 0, 0, 0, 1, 1, 1, 1, 1], [2, 0, 0, 1, 1, 0, 1, 0, 0, 0, 1, 1, 1, 1, 1], [1, 6], [1, 5], [2, 0, 0, 0, 1, 1, 1, 1, 1], [1, 4], [0, 1, 1, 1, 1, 1, 1]], [0, 5, 11, 12, 13, 14, 16, 17], 0, ⟨[.fd (.sl 3), .dp 6 32, .fd .bool, .fd (.int .i64), .fd (.int .i64), .fd .bool, .fd .bool, .fd (.int .i64)], []⟩⟩) (by kernel_rfl) ((o, t5, t11, t12, t13, t14, t16, t17, ()), ()) (by kernel_rfl) (by kernel_rfl)

def Tryd.m12.p : Pln := ⟨[(3, ⟨[[0, 0, 0, 0, 1, 0, 1, 1], [0, 1, 0, 0, 1, 0, 1, 1], [2, 0, 0, 1, 0, 1, 1], [1, 0], [0, 1, 1, 1]], [3, 6, 7, 8], 0, ⟨[.own 4 38, .fd (.sl 3), .fd (.int .i64), .fd (.int .i64)], []⟩⟩)], 0, ⟨[.fd (.sl 3)], []⟩, ⟨[.own 4 38], []⟩, false, [(5, ⟨[(0, true), (1, true), (2, false), (3, false), (4, true), (5, false), (6, false), (7, true)], [8, 9, 10], [0, 0, 2, 0, 0, 16, 56, 126, 254, 511, 1023], false⟩)], []⟩
noncomputable def Tryd.m12.E : Env En.Dop.D18 := envOf Tryd.prog 12 Tryd.tb [] Tryd.m12.p
theorem Tryd.m12.ok : plnOk En.Dop.D18 Tryd.prog 12 Tryd.m12.p = true := by kernel_rfl
noncomputable def Tryd.m12.c : Ctr En.Dop.D18 := ⟨12, Tryd.m12.p.bn, Tryd.m12.p.sp, Tryd.m12.p.rs, Tryd.m12.p.flat, .opt (Tryd.m12.E.run 3000 Tryd.m12.p.sp)⟩
theorem Tryd.m12.holds : Tryd.m12.c.Holds Tryd.prog := fun_ctr 3000 Tryd.tbOk hct_nil Tryd.m12.ok
noncomputable def Tryd.m12 (l : List (En.Dop.Rno)) : Option (Spec.D En.Dop.D18 ⟨[.own 4 38], []⟩) := Tryd.m12.E.run 3000 Tryd.m12.p.sp ((l, ()), ())
noncomputable def Tryd.m12_3 (out : List (En.Dop.Nod)) (t6 : List (En.Dop.Rno)) (t7 : Int) (t8 : Int) : Option (Spec.D En.Dop.D18 ⟨[.own 4 38], []⟩) := Tryd.m12.E.cut 3000 3 ((out, t6, t7, t8, ()), ())
theorem Tryd.m12_eq (l : List (En.Dop.Rno)) : Tryd.m12 l =
  Tryd.m12_3 (@List.nil Dop.Nod) (l) (I l.length) ((0 : Int)) := by kernel_rfl
theorem Tryd.m12_3_eq (out : List (En.Dop.Nod)) (t6 : List (En.Dop.Rno)) (t7 : Int) (t8 : Int) : Tryd.m12_3 out t6 t7 t8 =
  if (decide (t8 < t7)) = true then
   if (decide ((0 : Int) ≤ t8 ∧ t8 < I t6.length)) = true then
   if (andC none (room (8 : Nat) (@List.getD Dop.Rno t6 t8.toNat Dop.d3).args.length)) = true then
   if (decide ((@List.getD Dop.Rno t6 t8.toNat Dop.d3).args.length = (0 : Nat))) = true then
    if (andC none (room (40 : Nat) (out.length + (Dop.Nod.mk (@List.getD Dop.Rno t6 t8.toNat Dop.d3).head (@List.nil Int) :: @List.nil Dop.Nod).length))) = true then
    if (inR (t8 + (1 : Int))) = true then
    Tryd.m12_3 (out ++ Dop.Nod.mk (@List.getD Dop.Rno t6 t8.toNat Dop.d3).head (@List.nil Int) :: @List.nil Dop.Nod) (t6) (t7) (t8 + (1 : Int))
    else none
    else none
   else
    if (andC none (room (40 : Nat) (out.length + (Dop.Nod.mk (@List.getD Dop.Rno t6 t8.toNat Dop.d3).head (@List.getD Dop.Rno t6 t8.toNat Dop.d3).args :: @List.nil Dop.Nod).length))) = true then
    if (inR (t8 + (1 : Int))) = true then
    Tryd.m12_3 (out ++ Dop.Nod.mk (@List.getD Dop.Rno t6 t8.toNat Dop.d3).head (@List.getD Dop.Rno t6 t8.toNat Dop.d3).args :: @List.nil Dop.Nod) (t6) (t7) (t8 + (1 : Int))
    else none
    else none
   else none
   else none
  else
   some ((out, ()), ()) := Env.cut_eq' (E := Tryd.m12.E) (f0 := 3000) (c := 3) (q := ⟨[[0, 0, 0, 0, 1, 0, 1, 1], [0, 1, 0, 0, 1, 0, 1, 1], [2, 0, 0, 1, 0, 1, 1], [1, 0], [0, 1, 1, 1]], [3, 6, 7, 8], 0, ⟨[.own 4 38, .fd (.sl 3), .fd (.int .i64), .fd (.int .i64)], []⟩⟩) (by kernel_rfl) ((out, t6, t7, t8, ()), ()) (by kernel_rfl) (by kernel_rfl)

def Tryd.m3.p : Pln := ⟨[(8, ⟨[[0, 0, 0, 0, 1, 0, 1, 1, 1, 1, 1], [0, 1, 0, 0, 1, 0, 1, 1, 1, 1, 1], [2, 0, 0, 1, 0, 1, 1, 1, 1, 1], [1, 0], [0, 1, 1, 1, 1, 1, 1]], [0, 1, 2, 3, 9, 10, 33, 34], 0, ⟨[.fd (.sl 3), .fd (.sl 5), .fd (.int .i64), .fd (.int .i64), .dp 6 32, .own 0 3, .fd (.int .i64), .fd (.int .i64)], []⟩⟩), (12, ⟨[[0, 0, 0, 0, 0, 1, 0, 1, 1, 0, 0, 1, 1, 0, 0, 1, 0, 1, 1, 1, 1, 1], [0, 1, 0, 0, 0, 1, 0, 1, 1, 0, 0, 1, 1, 0, 0, 1, 0, 1, 1, 1, 1, 1], [0, 1, 0, 0, 1, 0, 1, 1, 0, 0, 1, 1, 0, 0, 1, 0, 1, 1, 1, 1, 1], [2, 0, 0, 1, 0, 1, 1, 0, 0, 1, 1, 0, 0, 1, 0, 1, 1, 1, 1, 1], [1, 2], [0, 1, 1, 1, 0, 0, 1, 1, 0, 0, 1, 0, 1, 1, 1, 1, 1], [1, 1], [0, 1, 1, 1, 0, 0, 1, 0, 1, 1, 1, 1, 1], [2, 0, 0, 1, 0, 1, 1, 1, 1, 1], [1, 0], [0, 1, 1, 1, 1, 1, 1]], [0, 1, 2, 3, 9, 10, 11, 12, 13, 33, 34], 0, ⟨[.fd (.sl 3), .fd (.sl 5), .fd (.int .i64), .fd (.int .i64), .dp 6 32, .own 0 3, .fd (.int .i64), .fd (.int .i64), .fd (.int .i64), .fd (.int .i64), .fd (.int .i64)], []⟩⟩)], 0, ⟨[.fd (.sl 3), .fd (.sl 5), .fd (.int .i64), .fd (.int .i64)], []⟩, ⟨[.fd .bool], []⟩, true, [], []⟩
noncomputable def Tryd.m3.E : Env En.Dop.D18 := envOf Tryd.prog 3 Tryd.tb [Tryd.m8.c, Tryd.m9.c, Tryd.m10.c, Tryd.m12.c, Tryd.m11.c, Tryd.m13.c] Tryd.m3.p
theorem Tryd.m3.ok : plnOk En.Dop.D18 Tryd.prog 3 Tryd.m3.p = true := by kernel_rfl
noncomputable def Tryd.m3.c : Ctr En.Dop.D18 := ⟨3, Tryd.m3.p.bn, Tryd.m3.p.sp, Tryd.m3.p.rs, Tryd.m3.p.flat, .opt (Tryd.m3.E.run 3000 Tryd.m3.p.sp)⟩
theorem Tryd.m3.holds : Tryd.m3.c.Holds Tryd.prog := fun_ctr 3000 Tryd.tbOk (hct_cons Tryd.m8.holds (hct_cons Tryd.m9.holds (hct_cons Tryd.m10.holds (hct_cons Tryd.m12.holds (hct_cons Tryd.m11.holds (hct_cons Tryd.m13.holds hct_nil)))))) Tryd.m3.ok
noncomputable def Tryd.m3 (o : List (En.Dop.Rno)) (t1 : List (En.Dop.Pr)) (t2 : Int) (t3 : Int) : Option (Spec.D En.Dop.D18 ⟨[.fd .bool], []⟩) := Tryd.m3.E.run 3000 Tryd.m3.p.sp ((o, t1, t2, t3, ()), ())
noncomputable def Tryd.m3_8 (o : List (En.Dop.Rno)) (t1 : List (En.Dop.Pr)) (t2 : Int) (t3 : Int) (t9 : List (List (Bool))) (t10 : List (Int)) (t33 : Int) (t34 : Int) : Option (Spec.D En.Dop.D18 ⟨[.fd .bool], []⟩) := Tryd.m3.E.cut 3000 8 ((o, t1, t2, t3, t9, t10, t33, t34, ()), ())
noncomputable def Tryd.m3_12 (o : List (En.Dop.Rno)) (t1 : List (En.Dop.Pr)) (t2 : Int) (t3 : Int) (t9 : List (List (Bool))) (t10 : List (Int)) (t11 : Int) (t12 : Int) (t13 : Int) (t33 : Int) (t34 : Int) : Option (Spec.D En.Dop.D18 ⟨[.fd .bool], []⟩) := Tryd.m3.E.cut 3000 12 ((o, t1, t2, t3, t9, t10, t11, t12, t13, t33, t34, ()), ())
theorem Tryd.m3_eq (o : List (En.Dop.Rno)) (t1 : List (En.Dop.Pr)) (t2 : Int) (t3 : Int) : Tryd.m3 o t1 t2 t3 =
  (Tryd.m8 (o) (t1)).bind fun y2 =>
   if (!y2.fst.fst) = true then
    (Tryd.m9).bind fun y4 =>
     some ((y4.fst.fst, ()), ())
   else
    (Tryd.m10 (o) (t1)).bind fun y4 =>
     (Tryd.m12 (o)).bind fun y5 =>
      (Tryd.m11 (y5.fst.fst) (t1)).bind fun y6 =>
       if (!decide (I y6.fst.fst.length = I o.length)) = true then
        some ((false, ()), ())
       else
        Tryd.m3_8 (o) (t1) (t2) (t3) (y4.fst.fst) (y6.fst.fst) (I o.length) ((0 : Int)) := by kernel_rfl
theorem Tryd.m3_8_eq (o : List (En.Dop.Rno)) (t1 : List (En.Dop.Pr)) (t2 : Int) (t3 : Int) (t9 : List (List (Bool))) (t10 : List (Int)) (t33 : Int) (t34 : Int) : Tryd.m3_8 o t1 t2 t3 t9 t10 t33 t34 =
  if (decide (t34 < t33)) = true then
   Tryd.m3_12 (o) (t1) (t2) (t3) (t9) (t10) (t34) (t34) (t34) (t33) (t34)
  else
   if (decide ((0 : Int) ≤ t2)) = true then
    if (decide (t2 < I o.length)) = true then
     if (decide ((0 : Int) ≤ t3)) = true then
      (Tryd.m12 (o)).bind fun y6 =>
       (Tryd.m13 (y6.fst.fst) (t1) (t2) (t3)).bind fun y7 =>
        if (decide (t3 < I o.length)) = true then
         if (decide ((0 : Int) ≤ t2 ∧ t2 < I t9.length)) = true then
         if (decide (t2.toNat < t9.length)) = true then
         if (decide (t2.toNat < t9.length ∧ (0 : Int) ≤ t3 ∧ t3 < I (@List.getD (List Bool) t9 t2.toNat (@List.nil Bool)).length)) = true then
         if (decide (t2.toNat < t9.length) && decide (t3.toNat < (@List.getD (List Bool) t9 t2.toNat (@List.nil Bool)).length)) = true then
         if (y7.fst.fst == (@List.getD (List Bool) t9 t2.toNat (@List.nil Bool)).getD t3.toNat false) = true then
          (Tryd.m9).bind fun y10 =>
           some ((y10.fst.fst, ()), ())
         else
          some ((false, ()), ())
         else none
         else none
         else none
         else none
        else
         if (y7.fst.fst == false) = true then
          (Tryd.m9).bind fun y10 =>
           some ((y10.fst.fst, ()), ())
         else
          some ((false, ()), ())
     else
      (Tryd.m12 (o)).bind fun y6 =>
       (Tryd.m13 (y6.fst.fst) (t1) (t2) (t3)).bind fun y7 =>
        if (y7.fst.fst == false) = true then
         (Tryd.m9).bind fun y9 =>
          some ((y9.fst.fst, ()), ())
        else
         some ((false, ()), ())
    else
     (Tryd.m12 (o)).bind fun y5 =>
      (Tryd.m13 (y5.fst.fst) (t1) (t2) (t3)).bind fun y6 =>
       if (y6.fst.fst == false) = true then
        (Tryd.m9).bind fun y8 =>
         some ((y8.fst.fst, ()), ())
       else
        some ((false, ()), ())
   else
    (Tryd.m12 (o)).bind fun y4 =>
     (Tryd.m13 (y4.fst.fst) (t1) (t2) (t3)).bind fun y5 =>
      if (y5.fst.fst == false) = true then
       (Tryd.m9).bind fun y7 =>
        some ((y7.fst.fst, ()), ())
      else
       some ((false, ()), ()) := Env.cut_eq' (E := Tryd.m3.E) (f0 := 3000) (c := 8) (q := ⟨[[0, 0, 0, 0, 1, 0, 1, 1, 1, 1, 1], [0, 1, 0, 0, 1, 0, 1, 1, 1, 1, 1], [2, 0, 0, 1, 0, 1, 1, 1, 1, 1], [1, 0], [0, 1, 1, 1, 1, 1, 1]], [0, 1, 2, 3, 9, 10, 33, 34], 0, ⟨[.fd (.sl 3), .fd (.sl 5), .fd (.int .i64), .fd (.int .i64), .dp 6 32, .own 0 3, .fd (.int .i64), .fd (.int .i64)], []⟩⟩) (by kernel_rfl) ((o, t1, t2, t3, t9, t10, t33, t34, ()), ()) (by kernel_rfl) (by kernel_rfl)
theorem Tryd.m3_12_eq (o : List (En.Dop.Rno)) (t1 : List (En.Dop.Pr)) (t2 : Int) (t3 : Int) (t9 : List (List (Bool))) (t10 : List (Int)) (t11 : Int) (t12 : Int) (t13 : Int) (t33 : Int) (t34 : Int) : Tryd.m3_12 o t1 t2 t3 t9 t10 t11 t12 t13 t33 t34 =
  if (decide ((0 : Int) ≤ t13)) = true then
   if (decide ((0 : Int) ≤ t11 ∧ t11 < I t9.length)) = true then
   if (decide (t11.toNat < t9.length)) = true then
   if (decide (t11.toNat < t9.length ∧ (0 : Int) ≤ t13 ∧ t13 < I (@List.getD (List Bool) t9 t11.toNat (@List.nil Bool)).length)) = true then
   if (decide (t11.toNat < t9.length) && decide (t13.toNat < (@List.getD (List Bool) t9 t11.toNat (@List.nil Bool)).length)) = true then
   if ((@List.getD (List Bool) t9 t11.toNat (@List.nil Bool)).getD t13.toNat false) = true then
    if (inR (t13 - (1 : Int))) = true then
    Tryd.m3_12 (o) (t1) (t2) (t3) (t9) (t10) (t11) (t13) (t13 - (1 : Int)) (t33) (t34)
    else none
   else
    if (inR (t13 - (1 : Int))) = true then
    Tryd.m3_12 (o) (t1) (t2) (t3) (t9) (t10) (t11) (t12) (t13 - (1 : Int)) (t33) (t34)
    else none
   else none
   else none
   else none
   else none
  else
   if (decide ((0 : Int) ≤ t11 ∧ t11 < I t10.length)) = true then
   if (decide (t11.toNat < t10.length)) = true then
   if (!decide (@List.getD Int t10 t11.toNat (0 : Int) = t12)) = true then
    some ((false, ()), ())
   else
    if (inR (t34 + (1 : Int))) = true then
    Tryd.m3_8 (o) (t1) (t2) (t3) (t9) (t10) (t33) (t34 + (1 : Int))
    else none
   else none
   else none := Env.cut_eq' (E := Tryd.m3.E) (f0 := 3000) (c := 12) (q := ⟨[[0, 0, 0, 0, 0, 1, 0, 1, 1, 0, 0, 1, 1, 0, 0, 1, 0, 1, 1, 1, 1, 1], [0, 1, 0, 0, 0, 1, 0, 1, 1, 0, 0, 1, 1, 0, 0, 1, 0, 1, 1, 1, 1, 1], [0, 1, 0, 0, 1, 0, 1, 1, 0, 0, 1, 1, 0, 0, 1, 0, 1, 1, 1, 1, 1], [2, 0, 0, 1, 0, 1, 1, 0, 0, 1, 1, 0, 0, 1, 0, 1, 1, 1, 1, 1], [1, 2], [0, 1, 1, 1, 0, 0, 1, 1, 0, 0, 1, 0, 1, 1, 1, 1, 1], [1, 1], [0, 1, 1, 1, 0, 0, 1, 0, 1, 1, 1, 1, 1], [2, 0, 0, 1, 0, 1, 1, 1, 1, 1], [1, 0], [0, 1, 1, 1, 1, 1, 1]], [0, 1, 2, 3, 9, 10, 11, 12, 13, 33, 34], 0, ⟨[.fd (.sl 3), .fd (.sl 5), .fd (.int .i64), .fd (.int .i64), .dp 6 32, .own 0 3, .fd (.int .i64), .fd (.int .i64), .fd (.int .i64), .fd (.int .i64), .fd (.int .i64)], []⟩⟩) (by kernel_rfl) ((o, t1, t2, t3, t9, t10, t11, t12, t13, t33, t34, ()), ()) (by kernel_rfl) (by kernel_rfl)

def Tryd.m4.p : Pln := ⟨[(9, ⟨[[0, 0, 0, 0, 1, 0, 1, 1, 1, 1, 1, 1], [0, 1, 0, 0, 1, 0, 1, 1, 1, 1, 1, 1], [2, 0, 0, 1, 0, 1, 1, 1, 1, 1, 1], [1, 0], [0, 1, 1, 1, 1, 1, 1, 1]], [7, 8, 9, 55, 56], 0, ⟨[.own 0 3, .own 0 3, .fd .bool, .fd (.int .i64), .fd (.int .i64)], []⟩⟩)], 0, ⟨[.fd (.sl 3), .fd (.sl 5), .st 5], []⟩, ⟨[.fd .bool], []⟩, true, [(4, ⟨[(0, true), (1, false), (2, false), (3, true), (4, false), (5, false), (6, false)], [7, 8, 9], [0, 1, 0, 0, 15, 0, 32, 127, 255, 511], false⟩), (7, ⟨[(0, true), (1, false), (2, true), (3, false), (4, false), (5, false), (6, false), (7, false), (8, true)], [], [0, 1, 0, 0, 8, 0, 32, 127, 255], false⟩), (11, ⟨[(0, true), (1, true), (2, false), (3, false), (4, true), (5, true), (6, false), (7, false), (8, true), (9, true), (10, true), (11, true), (12, false), (13, false), (14, true), (15, true), (16, true), (17, false), (18, false), (19, false), (20, false), (21, true), (22, true), (23, true), (24, true), (25, true), (26, true), (27, true), (28, false), (29, false), (30, true), (31, true), (32, false), (33, false), (34, true), (35, true), (36, true)], [], [0, 0, 3, 7, 0, 0, 48, 112, 255, 511, 1023, 1023, 4095, 8191, 1023, 1023, 1023, 99327, 230399, 508927, 1033215, 2097151, 4194303, 8388607, 16777215, 33554431, 67108863, 67108863, 268435455, 536870911, 67108863, 67108863, 3288334335, 7583301631, 17179869183, 34359738367, 68719476735], false⟩)], []⟩
noncomputable def Tryd.m4.E : Env En.Dop.D18 := envOf Tryd.prog 4 Tryd.tb [Tryd.m8.c, Tryd.m9.c, Tryd.m12.c, Tryd.m11.c, Tryd.m13.c] Tryd.m4.p
theorem Tryd.m4.ok : plnOk En.Dop.D18 Tryd.prog 4 Tryd.m4.p = true := by kernel_rfl
noncomputable def Tryd.m4.c : Ctr En.Dop.D18 := ⟨4, Tryd.m4.p.bn, Tryd.m4.p.sp, Tryd.m4.p.rs, Tryd.m4.p.flat, .opt (Tryd.m4.E.run 3000 Tryd.m4.p.sp)⟩
theorem Tryd.m4.holds : Tryd.m4.c.Holds Tryd.prog := fun_ctr 3000 Tryd.tbOk (hct_cons Tryd.m8.holds (hct_cons Tryd.m9.holds (hct_cons Tryd.m12.holds (hct_cons Tryd.m11.holds (hct_cons Tryd.m13.holds hct_nil))))) Tryd.m4.ok
noncomputable def Tryd.m4 (o : List (En.Dop.Rno)) (t1 : List (En.Dop.Pr)) (t2 : En.Dop.Pr) : Option (Spec.D En.Dop.D18 ⟨[.fd .bool], []⟩) := Tryd.m4.E.run 3000 Tryd.m4.p.sp ((o, t1, t2, ()), ())
noncomputable def Tryd.m4_9 (t7 : List (Int)) (t8 : List (Int)) (t9 : Bool) (t55 : Int) (t56 : Int) : Option (Spec.D En.Dop.D18 ⟨[.fd .bool], []⟩) := Tryd.m4.E.cut 3000 9 ((t7, t8, t9, t55, t56, ()), ())
theorem Tryd.m4_eq (o : List (En.Dop.Rno)) (t1 : List (En.Dop.Pr)) (t2 : En.Dop.Pr) : Tryd.m4 o t1 t2 =
  (Tryd.m8 (o) (t1)).bind fun y2 =>
   if (!y2.fst.fst) = true then
    (Tryd.m9).bind fun y4 =>
     some ((y4.fst.fst, ()), ())
   else
    if (decide ((11 : Int) < I t1.length)) = true then
     (Tryd.m9).bind fun y5 =>
      some ((y5.fst.fst, ()), ())
    else
     (Tryd.m12 (o)).bind fun y5 =>
      (Tryd.m11 (y5.fst.fst) (t1)).bind fun y6 =>
       (Tryd.m12 (o)).bind fun y7 =>
        if (andC none (room (16 : Nat) t1.length)) = true then
        if (decide (t1.length = (0 : Nat))) = true then
         if (andC none (room (16 : Nat) ((@List.nil Dop.Pr).length + (t2 :: @List.nil Dop.Pr).length))) = true then
         (Tryd.m11 (y7.fst.fst) (@List.nil Dop.Pr ++ t2 :: @List.nil Dop.Pr)).bind fun y9 =>
          if (!decide (I y6.fst.fst.length = I o.length)) = true then
           some ((false, ()), ())
          else
           if (!decide (I y9.fst.fst.length = I o.length)) = true then
            some ((false, ()), ())
           else
            (Tryd.m12 (o)).bind fun y12 =>
             if (decide ((0 : Int) ≤ (0 : Int) ∧ (0 : Int) < I (2 : Nat))) = true then
             if (decide ((0 : Int) ≤ (1 : Int) ∧ (1 : Int) < I (2 : Nat))) = true then
             (Tryd.m13 (y12.fst.fst) (t1) (t2.x0) (t2.x1)).bind fun y13 =>
              Tryd.m4_9 (y6.fst.fst) (y9.fst.fst) (y13.fst.fst) (I o.length) ((0 : Int))
             else none
             else none
         else none
        else
         if (andC none (room (16 : Nat) (t1.length + (t2 :: @List.nil Dop.Pr).length))) = true then
         (Tryd.m11 (y7.fst.fst) (t1 ++ t2 :: @List.nil Dop.Pr)).bind fun y9 =>
          if (!decide (I y6.fst.fst.length = I o.length)) = true then
           some ((false, ()), ())
          else
           if (!decide (I y9.fst.fst.length = I o.length)) = true then
            some ((false, ()), ())
           else
            (Tryd.m12 (o)).bind fun y12 =>
             if (decide ((0 : Int) ≤ (0 : Int) ∧ (0 : Int) < I (2 : Nat))) = true then
             if (decide ((0 : Int) ≤ (1 : Int) ∧ (1 : Int) < I (2 : Nat))) = true then
             (Tryd.m13 (y12.fst.fst) (t1) (t2.x0) (t2.x1)).bind fun y13 =>
              Tryd.m4_9 (y6.fst.fst) (y9.fst.fst) (y13.fst.fst) (I o.length) ((0 : Int))
             else none
             else none
         else none
        else none := by kernel_rfl
theorem Tryd.m4_9_eq (t7 : List (Int)) (t8 : List (Int)) (t9 : Bool) (t55 : Int) (t56 : Int) : Tryd.m4_9 t7 t8 t9 t55 t56 =
  if (decide (t56 < t55)) = true then
   if (decide ((0 : Int) ≤ t56 ∧ t56 < I t8.length)) = true then
   if (decide (t56.toNat < t8.length)) = true then
   if (decide ((0 : Int) ≤ t56 ∧ t56 < I t7.length)) = true then
   if (decide (t56.toNat < t7.length)) = true then
   if (decide (@List.getD Int t7 t56.toNat (0 : Int) < @List.getD Int t8 t56.toNat (0 : Int))) = true then
    some ((false, ()), ())
   else
    if (decide ((0 : Int) ≤ t56 ∧ t56 < I t8.length)) = true then
    if (decide (t56.toNat < t8.length)) = true then
    if (decide ((0 : Int) ≤ t56 ∧ t56 < I t7.length)) = true then
    if (decide (t56.toNat < t7.length)) = true then
    if (decide ((0 : Int) ≤ @List.getD Int t7 t56.toNat (0 : Int) ∧ @List.getD Int t7 t56.toNat (0 : Int) < I t8.length)) = true then
    if (decide ((@List.getD Int t7 t56.toNat (0 : Int)).toNat < t8.length)) = true then
    if (!decide (@List.getD Int t8 t56.toNat (0 : Int) = @List.getD Int t8 (@List.getD Int t7 t56.toNat (0 : Int)).toNat (0 : Int))) = true then
     some ((false, ()), ())
    else
     if (t9) = true then
      if (decide ((0 : Int) ≤ t56 ∧ t56 < I t7.length)) = true then
      if (decide (t56.toNat < t7.length)) = true then
      if (decide ((0 : Int) ≤ t56 ∧ t56 < I t8.length)) = true then
      if (decide (t56.toNat < t8.length)) = true then
      if (!decide (@List.getD Int t7 t56.toNat (0 : Int) = @List.getD Int t8 t56.toNat (0 : Int))) = true then
       some ((false, ()), ())
      else
       if (inR (t56 + (1 : Int))) = true then
       Tryd.m4_9 (t7) (t8) (t9) (t55) (t56 + (1 : Int))
       else none
      else none
      else none
      else none
      else none
     else
      if (inR (t56 + (1 : Int))) = true then
      Tryd.m4_9 (t7) (t8) (t9) (t55) (t56 + (1 : Int))
      else none
    else none
    else none
    else none
    else none
    else none
    else none
   else none
   else none
   else none
   else none
  else
   (Tryd.m9).bind fun y3 =>
    some ((y3.fst.fst, ()), ()) := Env.cut_eq' (E := Tryd.m4.E) (f0 := 3000) (c := 9) (q := ⟨[[0, 0, 0, 0, 1, 0, 1, 1, 1, 1, 1, 1], [0, 1, 0, 0, 1, 0, 1, 1, 1, 1, 1, 1], [2, 0, 0, 1, 0, 1, 1, 1, 1, 1, 1], [1, 0], [0, 1, 1, 1, 1, 1, 1, 1]], [7, 8, 9, 55, 56], 0, ⟨[.own 0 3, .own 0 3, .fd .bool, .fd (.int .i64), .fd (.int .i64)], []⟩⟩) (by kernel_rfl) ((t7, t8, t9, t55, t56, ()), ()) (by kernel_rfl) (by kernel_rfl)

def Tryd.m5.p : Pln := ⟨[(8, ⟨[[0, 0, 0, 0, 1, 0, 1, 1, 1, 1, 1], [0, 1, 0, 0, 1, 0, 1, 1, 1, 1, 1], [2, 0, 0, 1, 0, 1, 1, 1, 1, 1], [1, 0], [0, 1, 1, 1, 1, 1, 1]], [0, 1, 5, 6, 26, 27], 0, ⟨[.fd (.sl 3), .fd (.sl 5), .own 4 38, .own 0 3, .fd (.int .i64), .fd (.int .i64)], []⟩⟩), (14, ⟨[[0, 0, 0, 0, 1, 0, 1, 1, 1, 1, 1, 1], [0, 1, 0, 0, 1, 0, 1, 1, 1, 1, 1, 1], [2, 0, 0, 1, 0, 1, 1, 1, 1, 1, 1], [1, 2], [0, 1, 1, 1, 1, 1, 1, 1]], [0, 6, 69, 70, 71], 0, ⟨[.fd (.sl 3), .own 0 3, .fd (.sl 5), .fd (.int .i64), .fd (.int .i64)], []⟩⟩)], 0, ⟨[.fd (.sl 3), .fd (.sl 5)], []⟩, ⟨[.fd .bool], []⟩, true, [(10, ⟨[(0, true), (1, true), (2, false), (3, false), (4, true), (5, true), (6, true), (7, true), (8, false), (9, false), (10, true), (11, true), (12, true), (13, true), (14, true), (15, true), (16, true), (17, false), (18, false), (19, false), (20, false), (21, true), (22, true), (23, false), (24, false), (25, true), (26, true), (27, true), (28, true), (29, true), (30, true), (31, true), (32, true), (33, false), (34, false), (35, false), (36, true), (37, true)], [], [0, 0, 3, 7, 15, 31, 63, 63, 255, 511, 63, 2047, 4095, 8191, 16383, 16383, 16383, 114687, 245759, 524287, 1048575, 16383, 16383, 6307839, 14696447, 33554431, 67108863, 134217727, 268435455, 268435455, 268435455, 268435455, 268435455, 6710886399, 15300820991, 34359738367, 68719476735, 137438953471], false⟩), (16, ⟨[(0, false), (1, false), (2, true), (3, true), (4, false), (5, false), (6, true), (7, false), (8, true), (9, true), (10, true), (11, false), (12, false), (13, true), (14, true), (15, true), (16, false), (17, false), (18, true), (19, false), (20, true), (21, true), (22, true), (23, true), (24, false), (25, false), (26, false), (27, false), (28, true), (29, false), (30, false), (31, false), (32, false), (33, true), (34, true)], [], [0, 1, 3, 7, 15, 31, 15, 79, 255, 511, 1023, 2047, 4095, 8191, 16383, 32767, 65535, 131071, 65535, 327679, 1048575, 2097151, 4194303, 8388607, 8388607, 25165823, 67108863, 134217727, 8388607, 8388607, 545259519, 1887436799, 4034920447, 8589934591, 17179869183], false⟩)], []⟩
noncomputable def Tryd.m5.E : Env En.Dop.D18 := envOf Tryd.prog 5 Tryd.tb [Tryd.m8.c, Tryd.m9.c, Tryd.m12.c, Tryd.m11.c, Tryd.m13.c] Tryd.m5.p
theorem Tryd.m5.ok : plnOk En.Dop.D18 Tryd.prog 5 Tryd.m5.p = true := by kernel_rfl
noncomputable def Tryd.m5.c : Ctr En.Dop.D18 := ⟨5, Tryd.m5.p.bn, Tryd.m5.p.sp, Tryd.m5.p.rs, Tryd.m5.p.flat, .opt (Tryd.m5.E.run 3000 Tryd.m5.p.sp)⟩
theorem Tryd.m5.holds : Tryd.m5.c.Holds Tryd.prog := fun_ctr 3000 Tryd.tbOk (hct_cons Tryd.m8.holds (hct_cons Tryd.m9.holds (hct_cons Tryd.m12.holds (hct_cons Tryd.m11.holds (hct_cons Tryd.m13.holds hct_nil))))) Tryd.m5.ok
noncomputable def Tryd.m5 (o : List (En.Dop.Rno)) (t1 : List (En.Dop.Pr)) : Option (Spec.D En.Dop.D18 ⟨[.fd .bool], []⟩) := Tryd.m5.E.run 3000 Tryd.m5.p.sp ((o, t1, ()), ())
noncomputable def Tryd.m5_8 (o : List (En.Dop.Rno)) (t1 : List (En.Dop.Pr)) (t5 : List (En.Dop.Nod)) (t6 : List (Int)) (t26 : Int) (t27 : Int) : Option (Spec.D En.Dop.D18 ⟨[.fd .bool], []⟩) := Tryd.m5.E.cut 3000 8 ((o, t1, t5, t6, t26, t27, ()), ())
noncomputable def Tryd.m5_14 (o : List (En.Dop.Rno)) (t6 : List (Int)) (t69 : List (En.Dop.Pr)) (t70 : Int) (t71 : Int) : Option (Spec.D En.Dop.D18 ⟨[.fd .bool], []⟩) := Tryd.m5.E.cut 3000 14 ((o, t6, t69, t70, t71, ()), ())
theorem Tryd.m5_eq (o : List (En.Dop.Rno)) (t1 : List (En.Dop.Pr)) : Tryd.m5 o t1 =
  (Tryd.m8 (o) (t1)).bind fun y2 =>
   if (!y2.fst.fst) = true then
    (Tryd.m9).bind fun y4 =>
     some ((y4.fst.fst, ()), ())
   else
    (Tryd.m12 (o)).bind fun y4 =>
     (Tryd.m11 (y4.fst.fst) (t1)).bind fun y5 =>
      if (!decide (I y5.fst.fst.length = I o.length)) = true then
       some ((false, ()), ())
      else
       Tryd.m5_8 (o) (t1) (y4.fst.fst) (y5.fst.fst) (I o.length) ((0 : Int)) := by kernel_rfl
theorem Tryd.m5_8_eq (o : List (En.Dop.Rno)) (t1 : List (En.Dop.Pr)) (t5 : List (En.Dop.Nod)) (t6 : List (Int)) (t26 : Int) (t27 : Int) : Tryd.m5_8 o t1 t5 t6 t26 t27 =
  if (decide (t27 < t26)) = true then
   if (decide ((0 : Int) ≤ t27 ∧ t27 < I t6.length)) = true then
   if (decide (t27.toNat < t6.length)) = true then
   if (decide (@List.getD Int t6 t27.toNat (0 : Int) < (0 : Int))) = true then
    some ((false, ()), ())
   else
    if (decide ((0 : Int) ≤ t27 ∧ t27 < I t6.length)) = true then
    if (decide (t27.toNat < t6.length)) = true then
    if (decide (t27 < @List.getD Int t6 t27.toNat (0 : Int))) = true then
     some ((false, ()), ())
    else
     if (decide ((0 : Int) ≤ t27 ∧ t27 < I t6.length)) = true then
     if (decide (t27.toNat < t6.length)) = true then
     if (decide ((0 : Int) ≤ @List.getD Int t6 t27.toNat (0 : Int) ∧ @List.getD Int t6 t27.toNat (0 : Int) < I t6.length)) = true then
     if (decide ((@List.getD Int t6 t27.toNat (0 : Int)).toNat < t6.length)) = true then
     if (decide ((0 : Int) ≤ t27 ∧ t27 < I t6.length)) = true then
     if (decide (t27.toNat < t6.length)) = true then
     if (!decide (@List.getD Int t6 (@List.getD Int t6 t27.toNat (0 : Int)).toNat (0 : Int) = @List.getD Int t6 t27.toNat (0 : Int))) = true then
      some ((false, ()), ())
     else
      if (decide ((0 : Int) ≤ t27 ∧ t27 < I t6.length)) = true then
      if (decide (t27.toNat < t6.length)) = true then
      (Tryd.m13 (t5) (t1) (t27) (@List.getD Int t6 t27.toNat (0 : Int))).bind fun y6 =>
       if (!y6.fst.fst) = true then
        some ((false, ()), ())
       else
        if (inR (t27 + (1 : Int))) = true then
        Tryd.m5_8 (o) (t1) (t5) (t6) (t26) (t27 + (1 : Int))
        else none
      else none
      else none
     else none
     else none
     else none
     else none
     else none
     else none
    else none
    else none
   else none
   else none
  else
   Tryd.m5_14 (o) (t6) (t1) (I t1.length) ((0 : Int)) := Env.cut_eq' (E := Tryd.m5.E) (f0 := 3000) (c := 8) (q := ⟨[[0, 0, 0, 0, 1, 0, 1, 1, 1, 1, 1], [0, 1, 0, 0, 1, 0, 1, 1, 1, 1, 1], [2, 0, 0, 1, 0, 1, 1, 1, 1, 1], [1, 0], [0, 1, 1, 1, 1, 1, 1]], [0, 1, 5, 6, 26, 27], 0, ⟨[.fd (.sl 3), .fd (.sl 5), .own 4 38, .own 0 3, .fd (.int .i64), .fd (.int .i64)], []⟩⟩) (by kernel_rfl) ((o, t1, t5, t6, t26, t27, ()), ()) (by kernel_rfl) (by kernel_rfl)
theorem Tryd.m5_14_eq (o : List (En.Dop.Rno)) (t6 : List (Int)) (t69 : List (En.Dop.Pr)) (t70 : Int) (t71 : Int) : Tryd.m5_14 o t6 t69 t70 t71 =
  if (decide (t71 < t70)) = true then
   if (decide ((0 : Int) ≤ t71 ∧ t71 < I t69.length)) = true then
   if (decide ((0 : Int) ≤ (0 : Int) ∧ (0 : Int) < I (2 : Nat))) = true then
   if (decide ((0 : Int) ≤ (@List.getD Dop.Pr t69 t71.toNat Dop.d5).x0)) = true then
    if (decide ((0 : Int) ≤ (0 : Int) ∧ (0 : Int) < I (2 : Nat))) = true then
    if (decide ((@List.getD Dop.Pr t69 t71.toNat Dop.d5).x0 < I o.length)) = true then
     if (decide ((0 : Int) ≤ (1 : Int) ∧ (1 : Int) < I (2 : Nat))) = true then
     if (decide ((0 : Int) ≤ (@List.getD Dop.Pr t69 t71.toNat Dop.d5).x1)) = true then
      if (decide ((0 : Int) ≤ (1 : Int) ∧ (1 : Int) < I (2 : Nat))) = true then
      if (decide ((@List.getD Dop.Pr t69 t71.toNat Dop.d5).x1 < I o.length)) = true then
       if (decide ((0 : Int) ≤ (0 : Int) ∧ (0 : Int) < I (2 : Nat))) = true then
       if (decide ((0 : Int) ≤ (@List.getD Dop.Pr t69 t71.toNat Dop.d5).x0 ∧ (@List.getD Dop.Pr t69 t71.toNat Dop.d5).x0 < I t6.length)) = true then
       if (decide ((@List.getD Dop.Pr t69 t71.toNat Dop.d5).x0.toNat < t6.length)) = true then
       if (decide ((0 : Int) ≤ (1 : Int) ∧ (1 : Int) < I (2 : Nat))) = true then
       if (decide ((0 : Int) ≤ (@List.getD Dop.Pr t69 t71.toNat Dop.d5).x1 ∧ (@List.getD Dop.Pr t69 t71.toNat Dop.d5).x1 < I t6.length)) = true then
       if (decide ((@List.getD Dop.Pr t69 t71.toNat Dop.d5).x1.toNat < t6.length)) = true then
       if (!decide (@List.getD Int t6 (@List.getD Dop.Pr t69 t71.toNat Dop.d5).x0.toNat (0 : Int) = @List.getD Int t6 (@List.getD Dop.Pr t69 t71.toNat Dop.d5).x1.toNat (0 : Int))) = true then
        some ((false, ()), ())
       else
        if (inR (t71 + (1 : Int))) = true then
        Tryd.m5_14 (o) (t6) (t69) (t70) (t71 + (1 : Int))
        else none
       else none
       else none
       else none
       else none
       else none
       else none
      else
       if (inR (t71 + (1 : Int))) = true then
       Tryd.m5_14 (o) (t6) (t69) (t70) (t71 + (1 : Int))
       else none
      else none
     else
      if (inR (t71 + (1 : Int))) = true then
      Tryd.m5_14 (o) (t6) (t69) (t70) (t71 + (1 : Int))
      else none
     else none
    else
     if (inR (t71 + (1 : Int))) = true then
     Tryd.m5_14 (o) (t6) (t69) (t70) (t71 + (1 : Int))
     else none
    else none
   else
    if (inR (t71 + (1 : Int))) = true then
    Tryd.m5_14 (o) (t6) (t69) (t70) (t71 + (1 : Int))
    else none
   else none
   else none
  else
   (Tryd.m9).bind fun y3 =>
    some ((y3.fst.fst, ()), ()) := Env.cut_eq' (E := Tryd.m5.E) (f0 := 3000) (c := 14) (q := ⟨[[0, 0, 0, 0, 1, 0, 1, 1, 1, 1, 1, 1], [0, 1, 0, 0, 1, 0, 1, 1, 1, 1, 1, 1], [2, 0, 0, 1, 0, 1, 1, 1, 1, 1, 1], [1, 2], [0, 1, 1, 1, 1, 1, 1, 1]], [0, 6, 69, 70, 71], 0, ⟨[.fd (.sl 3), .own 0 3, .fd (.sl 5), .fd (.int .i64), .fd (.int .i64)], []⟩⟩) (by kernel_rfl) ((o, t6, t69, t70, t71, ()), ()) (by kernel_rfl) (by kernel_rfl)

def Tryd.m6.p : Pln := ⟨[(4, ⟨[[0, 0, 0, 0, 1, 0, 1, 1, 1], [0, 1, 0, 0, 1, 0, 1, 1, 1], [2, 0, 0, 1, 0, 1, 1, 1], [1, 0], [0, 1, 1, 1, 1]], [5, 6, 7, 25, 26], 0, ⟨[.fd (.int .i64), .fd (.int .i64), .own 4 38, .fd (.int .i64), .fd (.int .i64)], []⟩⟩), (9, ⟨[[0, 0, 0, 0, 0, 0, 1, 1, 1, 1, 1], [0, 1, 0, 0, 0, 0, 1, 1, 1, 1, 1], [0, 1, 0, 0, 0, 1, 1, 1, 1, 1], [2, 0, 0, 0, 1, 1, 1, 1, 1], [1, 2], [0, 1, 1, 1, 1, 1, 1]], [5, 6, 7, 9, 10], 0, ⟨[.fd (.int .i64), .fd (.int .i64), .own 4 38, .fd (.int .i64), .fd (.int .i64)], []⟩⟩), (13, ⟨[[0, 0, 0, 0, 1, 0, 1, 1, 1, 1, 1, 1, 1], [0, 1, 0, 0, 1, 0, 1, 1, 1, 1, 1, 1, 1], [2, 0, 0, 1, 0, 1, 1, 1, 1, 1, 1, 1], [1, 4], [0, 1, 1, 1, 1, 1, 1, 1, 1]], [9, 11, 52, 53], 0, ⟨[.fd (.int .i64), .own 0 3, .fd (.int .i64), .fd (.int .i64)], []⟩⟩)], 0, ⟨[.fd (.int .u8), .fd (.int .u8)], []⟩, ⟨[.fd .bool], []⟩, true, [(10, ⟨[(0, true), (1, true), (2, true), (3, true), (4, true), (5, true)], [], [0, 0, 0, 6, 3, 31], false⟩), (15, ⟨[(0, true), (1, true), (2, false), (3, false), (4, true), (5, true), (6, true), (7, true)], [], [0, 0, 3, 7, 0, 0, 48, 127], false⟩)], []⟩
noncomputable def Tryd.m6.E : Env En.Dop.D18 := envOf Tryd.prog 6 Tryd.tb [Tryd.m11.c, Tryd.m9.c] Tryd.m6.p
theorem Tryd.m6.ok : plnOk En.Dop.D18 Tryd.prog 6 Tryd.m6.p = true := by kernel_rfl
noncomputable def Tryd.m6.c : Ctr En.Dop.D18 := ⟨6, Tryd.m6.p.bn, Tryd.m6.p.sp, Tryd.m6.p.rs, Tryd.m6.p.flat, .opt (Tryd.m6.E.run 3000 Tryd.m6.p.sp)⟩
theorem Tryd.m6.holds : Tryd.m6.c.Holds Tryd.prog := fun_ctr 3000 Tryd.tbOk (hct_cons Tryd.m11.holds (hct_cons Tryd.m9.holds hct_nil)) Tryd.m6.ok
noncomputable def Tryd.m6 (o : Int) (t1 : Int) : Option (Spec.D En.Dop.D18 ⟨[.fd .bool], []⟩) := Tryd.m6.E.run 3000 Tryd.m6.p.sp ((o, t1, ()), ())
noncomputable def Tryd.m6_4 (t5 : Int) (t6 : Int) (t7 : List (En.Dop.Nod)) (t25 : Int) (t26 : Int) : Option (Spec.D En.Dop.D18 ⟨[.fd .bool], []⟩) := Tryd.m6.E.cut 3000 4 ((t5, t6, t7, t25, t26, ()), ())
noncomputable def Tryd.m6_9 (t5 : Int) (t6 : Int) (t7 : List (En.Dop.Nod)) (t9 : Int) (t10 : Int) : Option (Spec.D En.Dop.D18 ⟨[.fd .bool], []⟩) := Tryd.m6.E.cut 3000 9 ((t5, t6, t7, t9, t10, ()), ())
noncomputable def Tryd.m6_13 (t9 : Int) (t11 : List (Int)) (t52 : Int) (t53 : Int) : Option (Spec.D En.Dop.D18 ⟨[.fd .bool], []⟩) := Tryd.m6.E.cut 3000 13 ((t9, t11, t52, t53, ()), ())
theorem Tryd.m6_eq (o : Int) (t1 : Int) : Tryd.m6 o t1 =
  if (inR o) = true then
  if (decide ((12 : Int) ≠ (0 : Int))) = true then
  if (inR ((1 : Int) + o.tmod (12 : Int))) = true then
  if (inR t1) = true then
  if (decide ((12 : Int) ≠ (0 : Int))) = true then
  if (inR ((1 : Int) + t1.tmod (12 : Int))) = true then
  Tryd.m6_4 ((1 : Int) + o.tmod (12 : Int)) ((1 : Int) + t1.tmod (12 : Int)) (Dop.Nod.mk ((97 : UInt8) :: @List.nil UInt8) (@List.nil Int) :: @List.nil Dop.Nod) (if (1 : Int) + o.tmod (12 : Int) < (1 : Int) + t1.tmod (12 : Int) then (1 : Int) + t1.tmod (12 : Int) else (1 : Int) + o.tmod (12 : Int)) ((0 : Int))
  else none
  else none
  else none
  else none
  else none
  else none := by kernel_rfl
theorem Tryd.m6_4_eq (t5 : Int) (t6 : Int) (t7 : List (En.Dop.Nod)) (t25 : Int) (t26 : Int) : Tryd.m6_4 t5 t6 t7 t25 t26 =
  if (decide (t26 < t25)) = true then
   if (andC none (room (40 : Nat) (t7.length + (Dop.Nod.mk ((102 : UInt8) :: @List.nil UInt8) (t26 :: @List.nil Int) :: @List.nil Dop.Nod).length))) = true then
   if (inR (t26 + (1 : Int))) = true then
   Tryd.m6_4 (t5) (t6) (t7 ++ Dop.Nod.mk ((102 : UInt8) :: @List.nil UInt8) (t26 :: @List.nil Int) :: @List.nil Dop.Nod) (t25) (t26 + (1 : Int))
   else none
   else none
  else
   Tryd.m6_9 (t5) (t6) (t7) (t5) (t6) := Env.cut_eq' (E := Tryd.m6.E) (f0 := 3000) (c := 4) (q := ⟨[[0, 0, 0, 0, 1, 0, 1, 1, 1], [0, 1, 0, 0, 1, 0, 1, 1, 1], [2, 0, 0, 1, 0, 1, 1, 1], [1, 0], [0, 1, 1, 1, 1]], [5, 6, 7, 25, 26], 0, ⟨[.fd (.int .i64), .fd (.int .i64), .own 4 38, .fd (.int .i64), .fd (.int .i64)], []⟩⟩) (by kernel_rfl) ((t5, t6, t7, t25, t26, ()), ()) (by kernel_rfl) (by kernel_rfl)
theorem Tryd.m6_9_eq (t5 : Int) (t6 : Int) (t7 : List (En.Dop.Nod)) (t9 : Int) (t10 : Int) : Tryd.m6_9 t5 t6 t7 t9 t10 =
  if (!decide (t10 = (0 : Int))) = true then
   if (decide (t10 ≠ (0 : Int))) = true then
   Tryd.m6_9 (t5) (t6) (t7) (t10) (t9.tmod t10)
   else none
  else
   (Tryd.m11 (t7) (Dop.Pr.mk (0 : Int) t5 :: Dop.Pr.mk (0 : Int) t6 :: @List.nil Dop.Pr)).bind fun y3 =>
    Tryd.m6_13 (t9) (y3.fst.fst) (I y3.fst.fst.length) ((0 : Int)) := Env.cut_eq' (E := Tryd.m6.E) (f0 := 3000) (c := 9) (q := ⟨[[0, 0, 0, 0, 0, 0, 1, 1, 1, 1, 1], [0, 1, 0, 0, 0, 0, 1, 1, 1, 1, 1], [0, 1, 0, 0, 0, 1, 1, 1, 1, 1], [2, 0, 0, 0, 1, 1, 1, 1, 1], [1, 2], [0, 1, 1, 1, 1, 1, 1]], [5, 6, 7, 9, 10], 0, ⟨[.fd (.int .i64), .fd (.int .i64), .own 4 38, .fd (.int .i64), .fd (.int .i64)], []⟩⟩) (by kernel_rfl) ((t5, t6, t7, t9, t10, ()), ()) (by kernel_rfl) (by kernel_rfl)
theorem Tryd.m6_13_eq (t9 : Int) (t11 : List (Int)) (t52 : Int) (t53 : Int) : Tryd.m6_13 t9 t11 t52 t53 =
  if (decide (t53 < t52)) = true then
   if (decide ((0 : Int) ≤ t53 ∧ t53 < I t11.length)) = true then
   if (decide (t53.toNat < t11.length)) = true then
   if (decide (t9 ≠ (0 : Int))) = true then
   if (!decide (@List.getD Int t11 t53.toNat (0 : Int) = t53.tmod t9)) = true then
    some ((false, ()), ())
   else
    if (inR (t53 + (1 : Int))) = true then
    Tryd.m6_13 (t9) (t11) (t52) (t53 + (1 : Int))
    else none
   else none
   else none
   else none
  else
   (Tryd.m9).bind fun y3 =>
    some ((y3.fst.fst, ()), ()) := Env.cut_eq' (E := Tryd.m6.E) (f0 := 3000) (c := 13) (q := ⟨[[0, 0, 0, 0, 1, 0, 1, 1, 1, 1, 1, 1, 1], [0, 1, 0, 0, 1, 0, 1, 1, 1, 1, 1, 1, 1], [2, 0, 0, 1, 0, 1, 1, 1, 1, 1, 1, 1], [1, 4], [0, 1, 1, 1, 1, 1, 1, 1, 1]], [9, 11, 52, 53], 0, ⟨[.fd (.int .i64), .own 0 3, .fd (.int .i64), .fd (.int .i64)], []⟩⟩) (by kernel_rfl) ((t9, t11, t52, t53, ()), ()) (by kernel_rfl) (by kernel_rfl)

def Tryd.m7.p : Pln := ⟨[(5, ⟨[[0, 0, 0, 0, 1, 0, 1, 1, 1], [0, 1, 0, 0, 1, 0, 1, 1, 1], [2, 0, 0, 1, 0, 1, 1, 1], [1, 0], [0, 1, 1, 1, 1]], [0, 1, 5, 16, 17, 18], 0, ⟨[.fd (.sl 3), .fd (.sl 5), .own 5 35, .fd (.sl 5), .fd (.int .i64), .fd (.int .i64)], []⟩⟩), (13, ⟨[[0, 0, 0, 0, 1, 0, 1, 1, 1, 1, 1, 1], [0, 1, 0, 0, 1, 0, 1, 1, 1, 1, 1, 1], [2, 0, 0, 1, 0, 1, 1, 1, 1, 1, 1], [1, 2], [0, 1, 1, 1, 1, 1, 1, 1]], [8, 9, 52, 53], 0, ⟨[.own 0 3, .own 0 3, .fd (.int .i64), .fd (.int .i64)], []⟩⟩)], 0, ⟨[.fd (.sl 3), .fd (.sl 5)], []⟩, ⟨[.fd .bool], []⟩, true, [(15, ⟨[(0, true), (1, true), (2, false), (3, false), (4, true), (5, true), (6, false), (7, false), (8, true)], [], [0, 0, 3, 7, 0, 0, 48, 112, 255], false⟩)], []⟩
noncomputable def Tryd.m7.E : Env En.Dop.D18 := envOf Tryd.prog 7 Tryd.tb [Tryd.m8.c, Tryd.m9.c, Tryd.m12.c, Tryd.m11.c] Tryd.m7.p
theorem Tryd.m7.ok : plnOk En.Dop.D18 Tryd.prog 7 Tryd.m7.p = true := by kernel_rfl
noncomputable def Tryd.m7.c : Ctr En.Dop.D18 := ⟨7, Tryd.m7.p.bn, Tryd.m7.p.sp, Tryd.m7.p.rs, Tryd.m7.p.flat, .opt (Tryd.m7.E.run 3000 Tryd.m7.p.sp)⟩
theorem Tryd.m7.holds : Tryd.m7.c.Holds Tryd.prog := fun_ctr 3000 Tryd.tbOk (hct_cons Tryd.m8.holds (hct_cons Tryd.m9.holds (hct_cons Tryd.m12.holds (hct_cons Tryd.m11.holds hct_nil)))) Tryd.m7.ok
noncomputable def Tryd.m7 (o : List (En.Dop.Rno)) (t1 : List (En.Dop.Pr)) : Option (Spec.D En.Dop.D18 ⟨[.fd .bool], []⟩) := Tryd.m7.E.run 3000 Tryd.m7.p.sp ((o, t1, ()), ())
noncomputable def Tryd.m7_5 (o : List (En.Dop.Rno)) (t1 : List (En.Dop.Pr)) (t5 : List (En.Dop.Pr)) (t16 : List (En.Dop.Pr)) (t17 : Int) (t18 : Int) : Option (Spec.D En.Dop.D18 ⟨[.fd .bool], []⟩) := Tryd.m7.E.cut 3000 5 ((o, t1, t5, t16, t17, t18, ()), ())
noncomputable def Tryd.m7_13 (t8 : List (Int)) (t9 : List (Int)) (t52 : Int) (t53 : Int) : Option (Spec.D En.Dop.D18 ⟨[.fd .bool], []⟩) := Tryd.m7.E.cut 3000 13 ((t8, t9, t52, t53, ()), ())
theorem Tryd.m7_eq (o : List (En.Dop.Rno)) (t1 : List (En.Dop.Pr)) : Tryd.m7 o t1 =
  (Tryd.m8 (o) (t1)).bind fun y2 =>
   if (!y2.fst.fst) = true then
    (Tryd.m9).bind fun y4 =>
     some ((y4.fst.fst, ()), ())
   else
    Tryd.m7_5 (o) (t1) (@List.nil Dop.Pr) (t1) (I t1.length) ((0 : Int)) := by kernel_rfl
theorem Tryd.m7_5_eq (o : List (En.Dop.Rno)) (t1 : List (En.Dop.Pr)) (t5 : List (En.Dop.Pr)) (t16 : List (En.Dop.Pr)) (t17 : Int) (t18 : Int) : Tryd.m7_5 o t1 t5 t16 t17 t18 =
  if (decide (t18 < t17)) = true then
   if (decide ((0 : Int) ≤ t18 ∧ t18 < I t16.length)) = true then
   if (decide ((0 : Int) ≤ (1 : Int) ∧ (1 : Int) < I (2 : Nat))) = true then
   if (decide ((0 : Int) ≤ (0 : Int) ∧ (0 : Int) < I (2 : Nat))) = true then
   if (andC none (room (16 : Nat) ((Dop.Pr.mk (@List.getD Dop.Pr t16 t18.toNat Dop.d5).x1 (@List.getD Dop.Pr t16 t18.toNat Dop.d5).x0 :: @List.nil Dop.Pr).length + t5.length))) = true then
   if (inR (t18 + (1 : Int))) = true then
   Tryd.m7_5 (o) (t1) (Dop.Pr.mk (@List.getD Dop.Pr t16 t18.toNat Dop.d5).x1 (@List.getD Dop.Pr t16 t18.toNat Dop.d5).x0 :: @List.nil Dop.Pr ++ t5) (t16) (t17) (t18 + (1 : Int))
   else none
   else none
   else none
   else none
   else none
  else
   (Tryd.m12 (o)).bind fun y3 =>
    (Tryd.m11 (y3.fst.fst) (t1)).bind fun y4 =>
     (Tryd.m12 (o)).bind fun y5 =>
      (Tryd.m11 (y5.fst.fst) (t5)).bind fun y6 =>
       if (!decide (I y4.fst.fst.length = I o.length)) = true then
        some ((false, ()), ())
       else
        if (!decide (I y6.fst.fst.length = I o.length)) = true then
         some ((false, ()), ())
        else
         Tryd.m7_13 (y4.fst.fst) (y6.fst.fst) (I o.length) ((0 : Int)) := Env.cut_eq' (E := Tryd.m7.E) (f0 := 3000) (c := 5) (q := ⟨[[0, 0, 0, 0, 1, 0, 1, 1, 1], [0, 1, 0, 0, 1, 0, 1, 1, 1], [2, 0, 0, 1, 0, 1, 1, 1], [1, 0], [0, 1, 1, 1, 1]], [0, 1, 5, 16, 17, 18], 0, ⟨[.fd (.sl 3), .fd (.sl 5), .own 5 35, .fd (.sl 5), .fd (.int .i64), .fd (.int .i64)], []⟩⟩) (by kernel_rfl) ((o, t1, t5, t16, t17, t18, ()), ()) (by kernel_rfl) (by kernel_rfl)
theorem Tryd.m7_13_eq (t8 : List (Int)) (t9 : List (Int)) (t52 : Int) (t53 : Int) : Tryd.m7_13 t8 t9 t52 t53 =
  if (decide (t53 < t52)) = true then
   if (decide ((0 : Int) ≤ t53 ∧ t53 < I t8.length)) = true then
   if (decide (t53.toNat < t8.length)) = true then
   if (decide ((0 : Int) ≤ t53 ∧ t53 < I t9.length)) = true then
   if (decide (t53.toNat < t9.length)) = true then
   if (!decide (@List.getD Int t8 t53.toNat (0 : Int) = @List.getD Int t9 t53.toNat (0 : Int))) = true then
    some ((false, ()), ())
   else
    if (inR (t53 + (1 : Int))) = true then
    Tryd.m7_13 (t8) (t9) (t52) (t53 + (1 : Int))
    else none
   else none
   else none
   else none
   else none
  else
   (Tryd.m9).bind fun y3 =>
    some ((y3.fst.fst, ()), ()) := Env.cut_eq' (E := Tryd.m7.E) (f0 := 3000) (c := 13) (q := ⟨[[0, 0, 0, 0, 1, 0, 1, 1, 1, 1, 1, 1], [0, 1, 0, 0, 1, 0, 1, 1, 1, 1, 1, 1], [2, 0, 0, 1, 0, 1, 1, 1, 1, 1, 1], [1, 2], [0, 1, 1, 1, 1, 1, 1, 1]], [8, 9, 52, 53], 0, ⟨[.own 0 3, .own 0 3, .fd (.int .i64), .fd (.int .i64)], []⟩⟩) (by kernel_rfl) ((t8, t9, t52, t53, ()), ()) (by kernel_rfl) (by kernel_rfl)
end Go.Proofs
