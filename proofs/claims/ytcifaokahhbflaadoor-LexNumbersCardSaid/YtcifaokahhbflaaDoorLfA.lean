/-
  Functions of the seat, lifted: plan, model, contract, equations. Written by a program (Lift) that ran the layer's evaluation; Lean checks each line.
-/
import Derived.Test.YtcifaokahhbflaaDoorEn14
import Derived.Test.YtcifaokahhbflaaDoorTab2
import Derived.Test.YtcifaokahhbflaaDoorLb
namespace Go.Proofs
open Go Go.En

def Tryd.m21.p : Pln := ⟨[(2, ⟨[[0, 0, 0, 0, 0, 0, 1, 1, 0, 1], [0, 1, 0, 0, 0, 0, 1, 1, 0, 1], [0, 1, 0, 0, 0, 1, 1, 0, 1], [2, 0, 0, 0, 1, 1, 0, 1], [1, 0], [0, 1, 1, 1, 0, 1], [3, 0, 1]], [0, 4], 0, ⟨[.fd .str, .fd (.int .i64)], []⟩⟩)], 0, ⟨[.fd .str], []⟩, ⟨[.fd (.int .i64), .fd .bool], []⟩, true, [], []⟩
noncomputable def Tryd.m21.E : Env En.Dop.D2 := envOf Tryd.prog 21 Tryd.tb [Tryd.indexByte.c, Tryd.hasPrefix.c, Tryd.index.c] Tryd.m21.p
theorem Tryd.m21.ok : plnOk En.Dop.D2 Tryd.prog 21 Tryd.m21.p = true := by kernel_rfl
noncomputable def Tryd.m21.c : Ctr En.Dop.D2 := ⟨21, Tryd.m21.p.bn, Tryd.m21.p.sp, Tryd.m21.p.rs, Tryd.m21.p.flat, .opt (Tryd.m21.E.run 3000 Tryd.m21.p.sp)⟩
theorem Tryd.m21.holds : Tryd.m21.c.Holds Tryd.prog := fun_ctr 3000 Tryd.tbOk (hct_cons Tryd.indexByte.holds (hct_cons Tryd.hasPrefix.holds (hct_cons Tryd.index.holds hct_nil))) Tryd.m21.ok
noncomputable def Tryd.m21 (s : List UInt8) : Option (Spec.D En.Dop.D2 ⟨[.fd (.int .i64), .fd .bool], []⟩) := Tryd.m21.E.run 3000 Tryd.m21.p.sp ((s, ()), ())
noncomputable def Tryd.m21_2 (s : List UInt8) (at_ : Int) : Option (Spec.D En.Dop.D2 ⟨[.fd (.int .i64), .fd .bool], []⟩) := Tryd.m21.E.cut 3000 2 ((s, at_, ()), ())
theorem Tryd.m21_eq (s : List UInt8) : Tryd.m21 s =
  Tryd.m21_2 (s) ((0 : Int)) := by kernel_rfl
theorem Tryd.m21_2_eq (s : List UInt8) (at_ : Int) : Tryd.m21_2 s at_ =
  if (decide (at_ < I s.length)) = true then
   if (decide ((0 : Int) ≤ at_ ∧ at_ ≤ I s.length ∧ I s.length ≤ I s.length)) = true then
   if (decide ((0 : Int) ≤ at_ ∧ at_ < I s.length)) = true then
   if (true) = true then
   if (decide ((0 : Int) ≤ Lib.indexByte ((32 : UInt8) :: (9 : UInt8) :: (10 : UInt8) :: (13 : UInt8) :: @List.nil UInt8) (strAt s at_).toNat.toUInt8)) = true then
    if (inR (at_ + (1 : Int))) = true then
    Tryd.m21_2 (s) (at_ + (1 : Int))
    else none
   else
    if (true) = true then
    if (Lib.hasPrefix (List.drop at_.toNat (List.take (I s.length).toNat s)) ((47 : UInt8) :: (47 : UInt8) :: @List.nil UInt8)) = true then
     if (true) = true then
     if (decide (Lib.indexByte (List.drop at_.toNat (List.take (I s.length).toNat s)) (Int.toNat (10 : Int)).toUInt8 < (0 : Int))) = true then
      some ((I s.length, (true, ())), ())
     else
      if (inR (at_ + Lib.indexByte (List.drop at_.toNat (List.take (I s.length).toNat s)) (Int.toNat (10 : Int)).toUInt8)) = true then
      Tryd.m21_2 (s) (at_ + Lib.indexByte (List.drop at_.toNat (List.take (I s.length).toNat s)) (Int.toNat (10 : Int)).toUInt8)
      else none
     else none
    else
     if (true) = true then
     if (Lib.hasPrefix (List.drop at_.toNat (List.take (I s.length).toNat s)) ((47 : UInt8) :: (42 : UInt8) :: @List.nil UInt8)) = true then
      if (decide ((0 : Int) ≤ (2 : Int) ∧ (2 : Int) ≤ I (List.drop at_.toNat (List.take (I s.length).toNat s)).length ∧ I (List.drop at_.toNat (List.take (I s.length).toNat s)).length ≤ I (List.drop at_.toNat (List.take (I s.length).toNat s)).length)) = true then
      if (okS (List.drop (Int.toNat (2 : Int)) (List.take (I (List.drop at_.toNat (List.take (I s.length).toNat s)).length).toNat (List.drop at_.toNat (List.take (I s.length).toNat s))))) = true then
      if (decide (Lib.index (List.drop (Int.toNat (2 : Int)) (List.take (I (List.drop at_.toNat (List.take (I s.length).toNat s)).length).toNat (List.drop at_.toNat (List.take (I s.length).toNat s)))) ((42 : UInt8) :: (47 : UInt8) :: @List.nil UInt8) < (0 : Int))) = true then
       some ((at_, (false, ())), ())
      else
       if (inR (Lib.index (List.drop (Int.toNat (2 : Int)) (List.take (I (List.drop at_.toNat (List.take (I s.length).toNat s)).length).toNat (List.drop at_.toNat (List.take (I s.length).toNat s)))) ((42 : UInt8) :: (47 : UInt8) :: @List.nil UInt8) + (4 : Int))) = true then
       if (inR (at_ + (Lib.index (List.drop (Int.toNat (2 : Int)) (List.take (I (List.drop at_.toNat (List.take (I s.length).toNat s)).length).toNat (List.drop at_.toNat (List.take (I s.length).toNat s)))) ((42 : UInt8) :: (47 : UInt8) :: @List.nil UInt8) + (4 : Int)))) = true then
       Tryd.m21_2 (s) (at_ + (Lib.index (List.drop (Int.toNat (2 : Int)) (List.take (I (List.drop at_.toNat (List.take (I s.length).toNat s)).length).toNat (List.drop at_.toNat (List.take (I s.length).toNat s)))) ((42 : UInt8) :: (47 : UInt8) :: @List.nil UInt8) + (4 : Int)))
       else none
       else none
      else none
      else none
     else
      some ((at_, (true, ())), ())
     else none
    else none
   else none
   else none
   else none
  else
   some ((at_, (true, ())), ()) := Env.cut_eq' (E := Tryd.m21.E) (f0 := 3000) (c := 2) (q := ⟨[[0, 0, 0, 0, 0, 0, 1, 1, 0, 1], [0, 1, 0, 0, 0, 0, 1, 1, 0, 1], [0, 1, 0, 0, 0, 1, 1, 0, 1], [2, 0, 0, 0, 1, 1, 0, 1], [1, 0], [0, 1, 1, 1, 0, 1], [3, 0, 1]], [0, 4], 0, ⟨[.fd .str, .fd (.int .i64)], []⟩⟩) (by kernel_rfl) ((s, at_, ()), ()) (by kernel_rfl) (by kernel_rfl)

def Tryd.m38.p : Pln := ⟨[], 0, ⟨[.fd (.int .u8)], []⟩, ⟨[.fd .bool], []⟩, true, [], []⟩
noncomputable def Tryd.m38.E : Env En.Dop.D2 := envOf Tryd.prog 38 Tryd.tb [] Tryd.m38.p
theorem Tryd.m38.ok : plnOk En.Dop.D2 Tryd.prog 38 Tryd.m38.p = true := by kernel_rfl
noncomputable def Tryd.m38.c : Ctr En.Dop.D2 := ⟨38, Tryd.m38.p.bn, Tryd.m38.p.sp, Tryd.m38.p.rs, Tryd.m38.p.flat, .opt (Tryd.m38.E.run 3000 Tryd.m38.p.sp)⟩
theorem Tryd.m38.holds : Tryd.m38.c.Holds Tryd.prog := fun_ctr 3000 Tryd.tbOk hct_nil Tryd.m38.ok
noncomputable def Tryd.m38 (c : Int) : Option (Spec.D En.Dop.D2 ⟨[.fd .bool], []⟩) := Tryd.m38.E.run 3000 Tryd.m38.p.sp ((c, ()), ())
theorem Tryd.m38_eq (c : Int) : Tryd.m38 c =
  if (decide ((97 : Int) ≤ c)) = true then
   if (decide (c ≤ (122 : Int))) = true then
    some ((true, ()), ())
   else
    if (decide ((65 : Int) ≤ c)) = true then
     if (decide (c ≤ (90 : Int))) = true then
      some ((true, ()), ())
     else
      some ((decide (c = (95 : Int)), ()), ())
    else
     some ((decide (c = (95 : Int)), ()), ())
  else
   if (decide ((65 : Int) ≤ c)) = true then
    if (decide (c ≤ (90 : Int))) = true then
     some ((true, ()), ())
    else
     some ((decide (c = (95 : Int)), ()), ())
   else
    some ((decide (c = (95 : Int)), ()), ()) := by kernel_rfl

def Tryd.m40.p : Pln := ⟨[], 0, ⟨[.fd (.int .u8)], []⟩, ⟨[.fd .bool], []⟩, true, [], []⟩
noncomputable def Tryd.m40.E : Env En.Dop.D2 := envOf Tryd.prog 40 Tryd.tb [] Tryd.m40.p
theorem Tryd.m40.ok : plnOk En.Dop.D2 Tryd.prog 40 Tryd.m40.p = true := by kernel_rfl
noncomputable def Tryd.m40.c : Ctr En.Dop.D2 := ⟨40, Tryd.m40.p.bn, Tryd.m40.p.sp, Tryd.m40.p.rs, Tryd.m40.p.flat, .opt (Tryd.m40.E.run 3000 Tryd.m40.p.sp)⟩
theorem Tryd.m40.holds : Tryd.m40.c.Holds Tryd.prog := fun_ctr 3000 Tryd.tbOk hct_nil Tryd.m40.ok
noncomputable def Tryd.m40 (c : Int) : Option (Spec.D En.Dop.D2 ⟨[.fd .bool], []⟩) := Tryd.m40.E.run 3000 Tryd.m40.p.sp ((c, ()), ())
theorem Tryd.m40_eq (c : Int) : Tryd.m40 c =
  if (decide ((48 : Int) ≤ c)) = true then
   some ((decide (c ≤ (57 : Int)), ()), ())
  else
   some ((false, ()), ()) := by kernel_rfl

def Tryd.m39.p : Pln := ⟨[(2, ⟨[[0, 0, 0, 0, 0, 0, 1, 1], [0, 1, 0, 0, 0, 0, 1, 1], [0, 1, 0, 0, 0, 1, 1], [2, 0, 0, 0, 1, 1], [1, 0], [0, 1, 1, 1]], [0, 3], 0, ⟨[.fd .str, .fd (.int .i64)], []⟩⟩)], 0, ⟨[.fd .str], []⟩, ⟨[.fd (.int .i64)], []⟩, true, [], []⟩
noncomputable def Tryd.m39.E : Env En.Dop.D2 := envOf Tryd.prog 39 Tryd.tb [Tryd.m38.c, Tryd.m40.c] Tryd.m39.p
theorem Tryd.m39.ok : plnOk En.Dop.D2 Tryd.prog 39 Tryd.m39.p = true := by kernel_rfl
noncomputable def Tryd.m39.c : Ctr En.Dop.D2 := ⟨39, Tryd.m39.p.bn, Tryd.m39.p.sp, Tryd.m39.p.rs, Tryd.m39.p.flat, .opt (Tryd.m39.E.run 3000 Tryd.m39.p.sp)⟩
theorem Tryd.m39.holds : Tryd.m39.c.Holds Tryd.prog := fun_ctr 3000 Tryd.tbOk (hct_cons Tryd.m38.holds (hct_cons Tryd.m40.holds hct_nil)) Tryd.m39.ok
noncomputable def Tryd.m39 (s : List UInt8) : Option (Spec.D En.Dop.D2 ⟨[.fd (.int .i64)], []⟩) := Tryd.m39.E.run 3000 Tryd.m39.p.sp ((s, ()), ())
noncomputable def Tryd.m39_2 (s : List UInt8) (n : Int) : Option (Spec.D En.Dop.D2 ⟨[.fd (.int .i64)], []⟩) := Tryd.m39.E.cut 3000 2 ((s, n, ()), ())
theorem Tryd.m39_eq (s : List UInt8) : Tryd.m39 s =
  Tryd.m39_2 (s) ((0 : Int)) := by kernel_rfl
theorem Tryd.m39_2_eq (s : List UInt8) (n : Int) : Tryd.m39_2 s n =
  if (decide (n < I s.length)) = true then
   if (decide ((0 : Int) ≤ n ∧ n < I s.length)) = true then
   (Tryd.m38 (strAt s n)).bind fun y3 =>
    if (y3.fst.fst) = true then
     if (inR (n + (1 : Int))) = true then
     Tryd.m39_2 (s) (n + (1 : Int))
     else none
    else
     if (decide ((0 : Int) ≤ n ∧ n < I s.length)) = true then
     (Tryd.m40 (strAt s n)).bind fun y5 =>
      if (y5.fst.fst) = true then
       if (inR (n + (1 : Int))) = true then
       Tryd.m39_2 (s) (n + (1 : Int))
       else none
      else
       some ((n, ()), ())
     else none
   else none
  else
   some ((n, ()), ()) := Env.cut_eq' (E := Tryd.m39.E) (f0 := 3000) (c := 2) (q := ⟨[[0, 0, 0, 0, 0, 0, 1, 1], [0, 1, 0, 0, 0, 0, 1, 1], [0, 1, 0, 0, 0, 1, 1], [2, 0, 0, 0, 1, 1], [1, 0], [0, 1, 1, 1]], [0, 3], 0, ⟨[.fd .str, .fd (.int .i64)], []⟩⟩) (by kernel_rfl) ((s, n, ()), ()) (by kernel_rfl) (by kernel_rfl)

def Tryd.m16.p : Pln := ⟨[], 0, ⟨[.fd .str], []⟩, ⟨[.fd .bool], []⟩, true, [], []⟩
noncomputable def Tryd.m16.E : Env En.Dop.D2 := envOf Tryd.prog 16 Tryd.tb [Tryd.contains.c] Tryd.m16.p
theorem Tryd.m16.ok : plnOk En.Dop.D2 Tryd.prog 16 Tryd.m16.p = true := by kernel_rfl
noncomputable def Tryd.m16.c : Ctr En.Dop.D2 := ⟨16, Tryd.m16.p.bn, Tryd.m16.p.sp, Tryd.m16.p.rs, Tryd.m16.p.flat, .opt (Tryd.m16.E.run 3000 Tryd.m16.p.sp)⟩
theorem Tryd.m16.holds : Tryd.m16.c.Holds Tryd.prog := fun_ctr 3000 Tryd.tbOk (hct_cons Tryd.contains.holds hct_nil) Tryd.m16.ok
noncomputable def Tryd.m16 (w : List UInt8) : Option (Spec.D En.Dop.D2 ⟨[.fd .bool], []⟩) := Tryd.m16.E.run 3000 Tryd.m16.p.sp ((w, ()), ())
theorem Tryd.m16_eq (w : List UInt8) : Tryd.m16 w =
  if (!decide (w = @List.nil UInt8)) = true then
   if (okS w) = true then
   if (!Lib.contains w ((32 : UInt8) :: @List.nil UInt8)) = true then
    if (decide (((32 : UInt8) :: @List.nil UInt8).length + w.length ≤ (9223372036854775807 : Nat))) = true then
    if (decide (((32 : UInt8) :: @List.nil UInt8 ++ w).length + ((32 : UInt8) :: @List.nil UInt8).length ≤ (9223372036854775807 : Nat))) = true then
    if (okS (((32 : UInt8) :: (98 : UInt8) :: (114 : UInt8) :: (101 : UInt8) :: (97 : UInt8) :: (107 : UInt8) :: (32 : UInt8) :: (99 : UInt8) :: (97 : UInt8) :: (115 : UInt8) :: (101 : UInt8) :: (32 : UInt8) :: (99 : UInt8) :: (104 : UInt8) :: (97 : UInt8) :: (114 : UInt8) :: (32 : UInt8) :: (99 : UInt8) :: (111 : UInt8) :: (110 : UInt8) :: (116 : UInt8) :: (105 : UInt8) :: (110 : UInt8) :: (117 : UInt8) :: (101 : UInt8) :: (32 : UInt8) :: (100 : UInt8) :: (101 : UInt8) :: (102 : UInt8) :: (97 : UInt8) :: (117 : UInt8) :: (108 : UInt8) :: (116 : UInt8) :: (32 : UInt8) :: (100 : UInt8) :: (111 : UInt8) :: (32 : UInt8) :: (101 : UInt8) :: (108 : UInt8) :: (115 : UInt8) :: (101 : UInt8) :: (32 : UInt8) :: (102 : UInt8) :: (111 : UInt8) :: (114 : UInt8) :: (32 : UInt8) :: (103 : UInt8) :: (101 : UInt8) :: (116 : UInt8) :: (99 : UInt8) :: (32 : UInt8) :: (103 : UInt8) :: (111 : UInt8) :: (116 : UInt8) :: (111 : UInt8) :: (32 : UInt8) :: (105 : UInt8) :: (102 : UInt8) :: @List.nil UInt8).append ((32 : UInt8) :: (105 : UInt8) :: (110 : UInt8) :: (116 : UInt8) :: (32 : UInt8) :: (112 : UInt8) :: (117 : UInt8) :: (116 : UInt8) :: (99 : UInt8) :: (32 : UInt8) :: (114 : UInt8) :: (101 : UInt8) :: (116 : UInt8) :: (117 : UInt8) :: (114 : UInt8) :: (110 : UInt8) :: (32 : UInt8) :: (115 : UInt8) :: (105 : UInt8) :: (122 : UInt8) :: (101 : UInt8) :: (111 : UInt8) :: (102 : UInt8) :: (32 : UInt8) :: (115 : UInt8) :: (116 : UInt8) :: (114 : UInt8) :: (117 : UInt8) :: (99 : UInt8) :: (116 : UInt8) :: (32 : UInt8) :: (115 : UInt8) :: (119 : UInt8) :: (105 : UInt8) :: (116 : UInt8) :: (99 : UInt8) :: (104 : UInt8) :: (32 : UInt8) :: (117 : UInt8) :: (110 : UInt8) :: (115 : UInt8) :: (105 : UInt8) :: (103 : UInt8) :: (110 : UInt8) :: (101 : UInt8) :: (100 : UInt8) :: (32 : UInt8) :: (118 : UInt8) :: (111 : UInt8) :: (105 : UInt8) :: (100 : UInt8) :: (32 : UInt8) :: (119 : UInt8) :: (104 : UInt8) :: (105 : UInt8) :: (108 : UInt8) :: (101 : UInt8) :: (32 : UInt8) :: @List.nil UInt8))) = true then
    some ((Lib.contains (((32 : UInt8) :: (98 : UInt8) :: (114 : UInt8) :: (101 : UInt8) :: (97 : UInt8) :: (107 : UInt8) :: (32 : UInt8) :: (99 : UInt8) :: (97 : UInt8) :: (115 : UInt8) :: (101 : UInt8) :: (32 : UInt8) :: (99 : UInt8) :: (104 : UInt8) :: (97 : UInt8) :: (114 : UInt8) :: (32 : UInt8) :: (99 : UInt8) :: (111 : UInt8) :: (110 : UInt8) :: (116 : UInt8) :: (105 : UInt8) :: (110 : UInt8) :: (117 : UInt8) :: (101 : UInt8) :: (32 : UInt8) :: (100 : UInt8) :: (101 : UInt8) :: (102 : UInt8) :: (97 : UInt8) :: (117 : UInt8) :: (108 : UInt8) :: (116 : UInt8) :: (32 : UInt8) :: (100 : UInt8) :: (111 : UInt8) :: (32 : UInt8) :: (101 : UInt8) :: (108 : UInt8) :: (115 : UInt8) :: (101 : UInt8) :: (32 : UInt8) :: (102 : UInt8) :: (111 : UInt8) :: (114 : UInt8) :: (32 : UInt8) :: (103 : UInt8) :: (101 : UInt8) :: (116 : UInt8) :: (99 : UInt8) :: (32 : UInt8) :: (103 : UInt8) :: (111 : UInt8) :: (116 : UInt8) :: (111 : UInt8) :: (32 : UInt8) :: (105 : UInt8) :: (102 : UInt8) :: @List.nil UInt8).append ((32 : UInt8) :: (105 : UInt8) :: (110 : UInt8) :: (116 : UInt8) :: (32 : UInt8) :: (112 : UInt8) :: (117 : UInt8) :: (116 : UInt8) :: (99 : UInt8) :: (32 : UInt8) :: (114 : UInt8) :: (101 : UInt8) :: (116 : UInt8) :: (117 : UInt8) :: (114 : UInt8) :: (110 : UInt8) :: (32 : UInt8) :: (115 : UInt8) :: (105 : UInt8) :: (122 : UInt8) :: (101 : UInt8) :: (111 : UInt8) :: (102 : UInt8) :: (32 : UInt8) :: (115 : UInt8) :: (116 : UInt8) :: (114 : UInt8) :: (117 : UInt8) :: (99 : UInt8) :: (116 : UInt8) :: (32 : UInt8) :: (115 : UInt8) :: (119 : UInt8) :: (105 : UInt8) :: (116 : UInt8) :: (99 : UInt8) :: (104 : UInt8) :: (32 : UInt8) :: (117 : UInt8) :: (110 : UInt8) :: (115 : UInt8) :: (105 : UInt8) :: (103 : UInt8) :: (110 : UInt8) :: (101 : UInt8) :: (100 : UInt8) :: (32 : UInt8) :: (118 : UInt8) :: (111 : UInt8) :: (105 : UInt8) :: (100 : UInt8) :: (32 : UInt8) :: (119 : UInt8) :: (104 : UInt8) :: (105 : UInt8) :: (108 : UInt8) :: (101 : UInt8) :: (32 : UInt8) :: @List.nil UInt8)) ((32 : UInt8) :: @List.nil UInt8 ++ w ++ (32 : UInt8) :: @List.nil UInt8), ()), ())
    else none
    else none
    else none
   else
    some ((false, ()), ())
   else none
  else
   some ((false, ()), ()) := by kernel_rfl

def Tryd.m37.p : Pln := ⟨[], 1, ⟨[.fd (.int .i64), .fd (.int .i64), .fd (.int .i64), .al 0 0], [⟨0, 9, [.st 1], false⟩]⟩, ⟨[.st 4, .fd (.int .i64)], [⟨0, 9, [.fd .str], false⟩]⟩, true, [], []⟩
noncomputable def Tryd.m37.E : Env En.Dop.D2 := envOf Tryd.prog 37 Tryd.tb [] Tryd.m37.p
theorem Tryd.m37.ok : plnOk En.Dop.D2 Tryd.prog 37 Tryd.m37.p = true := by kernel_rfl
noncomputable def Tryd.m37.c : Ctr En.Dop.D2 := ⟨37, Tryd.m37.p.bn, Tryd.m37.p.sp, Tryd.m37.p.rs, Tryd.m37.p.flat, .opt (Tryd.m37.E.run 3000 Tryd.m37.p.sp)⟩
theorem Tryd.m37.holds : Tryd.m37.c.Holds Tryd.prog := fun_ctr 3000 Tryd.tbOk hct_nil Tryd.m37.ok
noncomputable def Tryd.m37 (kind : Int) (n : Int) (size : Int) (b0 : List UInt8) : Option (Spec.D En.Dop.D2 ⟨[.st 4, .fd (.int .i64)], [⟨0, 9, [.fd .str], false⟩]⟩) := Tryd.m37.E.run 3000 Tryd.m37.p.sp ((kind, n, size, (), ()), ((b0, ()), ()))
theorem Tryd.m37_eq (kind : Int) (n : Int) (size : Int) (b0 : List UInt8) : Tryd.m37 kind n size b0 =
  if (decide ((0 : Int) ≤ (0 : Int) ∧ (0 : Int) ≤ size ∧ size ≤ I b0.length)) = true then
  some ((Dop.Tok.mk kind (List.drop (Int.toNat (0 : Int)) (List.take size.toNat b0)) n (0 : Int), ((0 : Int), ())), ((b0, ()), ()))
  else none := by kernel_rfl

def Tryd.m41.p : Pln := ⟨[(9, ⟨[[0, 0, 0, 0, 1, 0, 1, 1, 1, 1, 1], [0, 1, 0, 0, 1, 0, 1, 1, 1, 1, 1], [2, 0, 0, 1, 0, 1, 1, 1, 1, 1], [1, 0], [0, 1, 1, 1, 1, 1, 1]], [0, 5, 6, 34, 35], 0, ⟨[.fd .str, .fd (.int .i64), .fd (.int .i64), .fd (.int .i64), .fd (.int .i64)], []⟩⟩)], 0, ⟨[.fd .str], []⟩, ⟨[.fd (.int .i64), .fd .bool], []⟩, true, [(6, ⟨[(0, true), (2, true)], [1, 3], [0, 1, 0, 7], false⟩)], []⟩
noncomputable def Tryd.m41.E : Env En.Dop.D2 := envOf Tryd.prog 41 Tryd.tb [Tryd.hasPrefix.c, Tryd.lower.c, Tryd.indexByte.c] Tryd.m41.p
theorem Tryd.m41.ok : plnOk En.Dop.D2 Tryd.prog 41 Tryd.m41.p = true := by kernel_rfl
noncomputable def Tryd.m41.c : Ctr En.Dop.D2 := ⟨41, Tryd.m41.p.bn, Tryd.m41.p.sp, Tryd.m41.p.rs, Tryd.m41.p.flat, .opt (Tryd.m41.E.run 3000 Tryd.m41.p.sp)⟩
theorem Tryd.m41.holds : Tryd.m41.c.Holds Tryd.prog := fun_ctr 3000 Tryd.tbOk (hct_cons Tryd.hasPrefix.holds (hct_cons Tryd.lower.holds (hct_cons Tryd.indexByte.holds hct_nil))) Tryd.m41.ok
noncomputable def Tryd.m41 (s : List UInt8) : Option (Spec.D En.Dop.D2 ⟨[.fd (.int .i64), .fd .bool], []⟩) := Tryd.m41.E.run 3000 Tryd.m41.p.sp ((s, ()), ())
noncomputable def Tryd.m41_9 (s : List UInt8) (base : Int) (n : Int) (t34 : Int) (t35 : Int) : Option (Spec.D En.Dop.D2 ⟨[.fd (.int .i64), .fd .bool], []⟩) := Tryd.m41.E.cut 3000 9 ((s, base, n, t34, t35, ()), ())
theorem Tryd.m41_eq (s : List UInt8) : Tryd.m41 s =
  if (inR (I s.length - (1 : Int))) = true then
  if (decide ((0 : Int) ≤ I s.length - (1 : Int) ∧ I s.length - (1 : Int) < I s.length)) = true then
  if (decide (strAt s (I s.length - (1 : Int)) = (117 : Int))) = true then
   if (decide ((0 : Int) ≤ (0 : Int) ∧ (0 : Int) ≤ I s.length - (1 : Int) ∧ I s.length - (1 : Int) ≤ I s.length)) = true then
   if (true) = true then
   if (Lib.hasPrefix (List.drop (Int.toNat (0 : Int)) (List.take (I s.length - (1 : Int)).toNat s)) ((48 : UInt8) :: (120 : UInt8) :: @List.nil UInt8)) = true then
    if (decide ((0 : Int) ≤ (2 : Int) ∧ (2 : Int) ≤ I (List.drop (Int.toNat (0 : Int)) (List.take (I s.length - (1 : Int)).toNat s)).length ∧ I (List.drop (Int.toNat (0 : Int)) (List.take (I s.length - (1 : Int)).toNat s)).length ≤ I (List.drop (Int.toNat (0 : Int)) (List.take (I s.length - (1 : Int)).toNat s)).length)) = true then
    Tryd.m41_9 (List.drop (Int.toNat (2 : Int)) (List.take (I (List.drop (Int.toNat (0 : Int)) (List.take (I s.length - (1 : Int)).toNat s)).length).toNat (List.drop (Int.toNat (0 : Int)) (List.take (I s.length - (1 : Int)).toNat s)))) ((16 : Int)) ((0 : Int)) (I (List.drop (Int.toNat (2 : Int)) (List.take (I (List.drop (Int.toNat (0 : Int)) (List.take (I s.length - (1 : Int)).toNat s)).length).toNat (List.drop (Int.toNat (0 : Int)) (List.take (I s.length - (1 : Int)).toNat s)))).length) ((0 : Int))
    else none
   else
    if (true) = true then
    if (Lib.hasPrefix (List.drop (Int.toNat (0 : Int)) (List.take (I s.length - (1 : Int)).toNat s)) ((48 : UInt8) :: (88 : UInt8) :: @List.nil UInt8)) = true then
     if (decide ((0 : Int) ≤ (2 : Int) ∧ (2 : Int) ≤ I (List.drop (Int.toNat (0 : Int)) (List.take (I s.length - (1 : Int)).toNat s)).length ∧ I (List.drop (Int.toNat (0 : Int)) (List.take (I s.length - (1 : Int)).toNat s)).length ≤ I (List.drop (Int.toNat (0 : Int)) (List.take (I s.length - (1 : Int)).toNat s)).length)) = true then
     Tryd.m41_9 (List.drop (Int.toNat (2 : Int)) (List.take (I (List.drop (Int.toNat (0 : Int)) (List.take (I s.length - (1 : Int)).toNat s)).length).toNat (List.drop (Int.toNat (0 : Int)) (List.take (I s.length - (1 : Int)).toNat s)))) ((16 : Int)) ((0 : Int)) (I (List.drop (Int.toNat (2 : Int)) (List.take (I (List.drop (Int.toNat (0 : Int)) (List.take (I s.length - (1 : Int)).toNat s)).length).toNat (List.drop (Int.toNat (0 : Int)) (List.take (I s.length - (1 : Int)).toNat s)))).length) ((0 : Int))
     else none
    else
     Tryd.m41_9 (List.drop (Int.toNat (0 : Int)) (List.take (I s.length - (1 : Int)).toNat s)) ((10 : Int)) ((0 : Int)) (I (List.drop (Int.toNat (0 : Int)) (List.take (I s.length - (1 : Int)).toNat s)).length) ((0 : Int))
    else none
   else none
   else none
  else
   if (decide ((0 : Int) ≤ I s.length - (1 : Int) ∧ I s.length - (1 : Int) < I s.length)) = true then
   if (decide (strAt s (I s.length - (1 : Int)) = (85 : Int))) = true then
    if (decide ((0 : Int) ≤ (0 : Int) ∧ (0 : Int) ≤ I s.length - (1 : Int) ∧ I s.length - (1 : Int) ≤ I s.length)) = true then
    if (true) = true then
    if (Lib.hasPrefix (List.drop (Int.toNat (0 : Int)) (List.take (I s.length - (1 : Int)).toNat s)) ((48 : UInt8) :: (120 : UInt8) :: @List.nil UInt8)) = true then
     if (decide ((0 : Int) ≤ (2 : Int) ∧ (2 : Int) ≤ I (List.drop (Int.toNat (0 : Int)) (List.take (I s.length - (1 : Int)).toNat s)).length ∧ I (List.drop (Int.toNat (0 : Int)) (List.take (I s.length - (1 : Int)).toNat s)).length ≤ I (List.drop (Int.toNat (0 : Int)) (List.take (I s.length - (1 : Int)).toNat s)).length)) = true then
     Tryd.m41_9 (List.drop (Int.toNat (2 : Int)) (List.take (I (List.drop (Int.toNat (0 : Int)) (List.take (I s.length - (1 : Int)).toNat s)).length).toNat (List.drop (Int.toNat (0 : Int)) (List.take (I s.length - (1 : Int)).toNat s)))) ((16 : Int)) ((0 : Int)) (I (List.drop (Int.toNat (2 : Int)) (List.take (I (List.drop (Int.toNat (0 : Int)) (List.take (I s.length - (1 : Int)).toNat s)).length).toNat (List.drop (Int.toNat (0 : Int)) (List.take (I s.length - (1 : Int)).toNat s)))).length) ((0 : Int))
     else none
    else
     if (true) = true then
     if (Lib.hasPrefix (List.drop (Int.toNat (0 : Int)) (List.take (I s.length - (1 : Int)).toNat s)) ((48 : UInt8) :: (88 : UInt8) :: @List.nil UInt8)) = true then
      if (decide ((0 : Int) ≤ (2 : Int) ∧ (2 : Int) ≤ I (List.drop (Int.toNat (0 : Int)) (List.take (I s.length - (1 : Int)).toNat s)).length ∧ I (List.drop (Int.toNat (0 : Int)) (List.take (I s.length - (1 : Int)).toNat s)).length ≤ I (List.drop (Int.toNat (0 : Int)) (List.take (I s.length - (1 : Int)).toNat s)).length)) = true then
      Tryd.m41_9 (List.drop (Int.toNat (2 : Int)) (List.take (I (List.drop (Int.toNat (0 : Int)) (List.take (I s.length - (1 : Int)).toNat s)).length).toNat (List.drop (Int.toNat (0 : Int)) (List.take (I s.length - (1 : Int)).toNat s)))) ((16 : Int)) ((0 : Int)) (I (List.drop (Int.toNat (2 : Int)) (List.take (I (List.drop (Int.toNat (0 : Int)) (List.take (I s.length - (1 : Int)).toNat s)).length).toNat (List.drop (Int.toNat (0 : Int)) (List.take (I s.length - (1 : Int)).toNat s)))).length) ((0 : Int))
      else none
     else
      Tryd.m41_9 (List.drop (Int.toNat (0 : Int)) (List.take (I s.length - (1 : Int)).toNat s)) ((10 : Int)) ((0 : Int)) (I (List.drop (Int.toNat (0 : Int)) (List.take (I s.length - (1 : Int)).toNat s)).length) ((0 : Int))
     else none
    else none
    else none
   else
    if (true) = true then
    if (Lib.hasPrefix s ((48 : UInt8) :: (120 : UInt8) :: @List.nil UInt8)) = true then
     if (decide ((0 : Int) ≤ (2 : Int) ∧ (2 : Int) ≤ I s.length ∧ I s.length ≤ I s.length)) = true then
     Tryd.m41_9 (List.drop (Int.toNat (2 : Int)) (List.take (I s.length).toNat s)) ((16 : Int)) ((0 : Int)) (I (List.drop (Int.toNat (2 : Int)) (List.take (I s.length).toNat s)).length) ((0 : Int))
     else none
    else
     if (true) = true then
     if (Lib.hasPrefix s ((48 : UInt8) :: (88 : UInt8) :: @List.nil UInt8)) = true then
      if (decide ((0 : Int) ≤ (2 : Int) ∧ (2 : Int) ≤ I s.length ∧ I s.length ≤ I s.length)) = true then
      Tryd.m41_9 (List.drop (Int.toNat (2 : Int)) (List.take (I s.length).toNat s)) ((16 : Int)) ((0 : Int)) (I (List.drop (Int.toNat (2 : Int)) (List.take (I s.length).toNat s)).length) ((0 : Int))
      else none
     else
      Tryd.m41_9 (s) ((10 : Int)) ((0 : Int)) (I s.length) ((0 : Int))
     else none
    else none
   else none
  else none
  else none := by kernel_rfl
theorem Tryd.m41_9_eq (s : List UInt8) (base : Int) (n : Int) (t34 : Int) (t35 : Int) : Tryd.m41_9 s base n t34 t35 =
  if (decide (t35 < t34)) = true then
   if (inR (t35 + (1 : Int))) = true then
   if (decide ((0 : Int) ≤ t35 ∧ t35 ≤ t35 + (1 : Int) ∧ t35 + (1 : Int) ≤ I s.length)) = true then
   if (okL (List.drop t35.toNat (List.take (t35 + (1 : Int)).toNat s))) = true then
   if (decide ((0 : Int) ≤ (0 : Int) ∧ (0 : Int) < I (Lib.toLowerA (List.drop t35.toNat (List.take (t35 + (1 : Int)).toNat s))).length)) = true then
   if (true) = true then
   if (decide (Lib.indexByte ((48 : UInt8) :: (49 : UInt8) :: (50 : UInt8) :: (51 : UInt8) :: (52 : UInt8) :: (53 : UInt8) :: (54 : UInt8) :: (55 : UInt8) :: (56 : UInt8) :: (57 : UInt8) :: (97 : UInt8) :: (98 : UInt8) :: (99 : UInt8) :: (100 : UInt8) :: (101 : UInt8) :: (102 : UInt8) :: @List.nil UInt8) (strAt (Lib.toLowerA (List.drop t35.toNat (List.take (t35 + (1 : Int)).toNat s))) (0 : Int)).toNat.toUInt8 < (0 : Int))) = true then
    some (((0 : Int), (false, ())), ())
   else
    if (decide (base ≤ Lib.indexByte ((48 : UInt8) :: (49 : UInt8) :: (50 : UInt8) :: (51 : UInt8) :: (52 : UInt8) :: (53 : UInt8) :: (54 : UInt8) :: (55 : UInt8) :: (56 : UInt8) :: (57 : UInt8) :: (97 : UInt8) :: (98 : UInt8) :: (99 : UInt8) :: (100 : UInt8) :: (101 : UInt8) :: (102 : UInt8) :: @List.nil UInt8) (strAt (Lib.toLowerA (List.drop t35.toNat (List.take (t35 + (1 : Int)).toNat s))) (0 : Int)).toNat.toUInt8)) = true then
     some (((0 : Int), (false, ())), ())
    else
     if (inR (n * base)) = true then
     if (inR (n * base + Lib.indexByte ((48 : UInt8) :: (49 : UInt8) :: (50 : UInt8) :: (51 : UInt8) :: (52 : UInt8) :: (53 : UInt8) :: (54 : UInt8) :: (55 : UInt8) :: (56 : UInt8) :: (57 : UInt8) :: (97 : UInt8) :: (98 : UInt8) :: (99 : UInt8) :: (100 : UInt8) :: (101 : UInt8) :: (102 : UInt8) :: @List.nil UInt8) (strAt (Lib.toLowerA (List.drop t35.toNat (List.take (t35 + (1 : Int)).toNat s))) (0 : Int)).toNat.toUInt8)) = true then
     if (decide ((4294967295 : Int) < n * base + Lib.indexByte ((48 : UInt8) :: (49 : UInt8) :: (50 : UInt8) :: (51 : UInt8) :: (52 : UInt8) :: (53 : UInt8) :: (54 : UInt8) :: (55 : UInt8) :: (56 : UInt8) :: (57 : UInt8) :: (97 : UInt8) :: (98 : UInt8) :: (99 : UInt8) :: (100 : UInt8) :: (101 : UInt8) :: (102 : UInt8) :: @List.nil UInt8) (strAt (Lib.toLowerA (List.drop t35.toNat (List.take (t35 + (1 : Int)).toNat s))) (0 : Int)).toNat.toUInt8)) = true then
      some (((0 : Int), (false, ())), ())
     else
      if (inR (t35 + (1 : Int))) = true then
      Tryd.m41_9 (s) (base) (n * base + Lib.indexByte ((48 : UInt8) :: (49 : UInt8) :: (50 : UInt8) :: (51 : UInt8) :: (52 : UInt8) :: (53 : UInt8) :: (54 : UInt8) :: (55 : UInt8) :: (56 : UInt8) :: (57 : UInt8) :: (97 : UInt8) :: (98 : UInt8) :: (99 : UInt8) :: (100 : UInt8) :: (101 : UInt8) :: (102 : UInt8) :: @List.nil UInt8) (strAt (Lib.toLowerA (List.drop t35.toNat (List.take (t35 + (1 : Int)).toNat s))) (0 : Int)).toNat.toUInt8) (t34) (t35 + (1 : Int))
      else none
     else none
     else none
   else none
   else none
   else none
   else none
   else none
  else
   some ((n, (!decide (s = @List.nil UInt8), ())), ()) := Env.cut_eq' (E := Tryd.m41.E) (f0 := 3000) (c := 9) (q := ⟨[[0, 0, 0, 0, 1, 0, 1, 1, 1, 1, 1], [0, 1, 0, 0, 1, 0, 1, 1, 1, 1, 1], [2, 0, 0, 1, 0, 1, 1, 1, 1, 1], [1, 0], [0, 1, 1, 1, 1, 1, 1]], [0, 5, 6, 34, 35], 0, ⟨[.fd .str, .fd (.int .i64), .fd (.int .i64), .fd (.int .i64), .fd (.int .i64)], []⟩⟩) (by kernel_rfl) ((s, base, n, t34, t35, ()), ()) (by kernel_rfl) (by kernel_rfl)

def Tryd.m42.p : Pln := ⟨[], 0, ⟨[.fd .str], []⟩, ⟨[.fd (.int .i64), .fd (.int .i64)], []⟩, true, [], []⟩
noncomputable def Tryd.m42.E : Env En.Dop.D2 := envOf Tryd.prog 42 Tryd.tb [] Tryd.m42.p
theorem Tryd.m42.ok : plnOk En.Dop.D2 Tryd.prog 42 Tryd.m42.p = true := by kernel_rfl
noncomputable def Tryd.m42.c : Ctr En.Dop.D2 := ⟨42, Tryd.m42.p.bn, Tryd.m42.p.sp, Tryd.m42.p.rs, Tryd.m42.p.flat, .opt (Tryd.m42.E.run 3000 Tryd.m42.p.sp)⟩
theorem Tryd.m42.holds : Tryd.m42.c.Holds Tryd.prog := fun_ctr 3000 Tryd.tbOk hct_nil Tryd.m42.ok
noncomputable def Tryd.m42 (s : List UInt8) : Option (Spec.D En.Dop.D2 ⟨[.fd (.int .i64), .fd (.int .i64)], []⟩) := Tryd.m42.E.run 3000 Tryd.m42.p.sp ((s, ()), ())
theorem Tryd.m42_eq (s : List UInt8) : Tryd.m42 s =
  if (decide ((4 : Int) ≤ I s.length)) = true then
   if (decide ((0 : Int) ≤ (1 : Int) ∧ (1 : Int) < I s.length)) = true then
   if (decide (strAt s (1 : Int) = (92 : Int))) = true then
    if (decide ((0 : Int) ≤ (3 : Int) ∧ (3 : Int) < I s.length)) = true then
    if (decide (strAt s (3 : Int) = (39 : Int))) = true then
     if (decide ((0 : Int) ≤ (2 : Int) ∧ (2 : Int) < I s.length)) = true then
     if ((mlookI (mputI (mputI (mputI (mputI (mputI (@List.nil (Int × Int)) (110 : Int) (10 : Int)) (116 : Int) (9 : Int)) (48 : Int) (0 : Int)) (92 : Int) (92 : Int)) (39 : Int) (39 : Int)) (strAt s (2 : Int))).isSome) = true then
      some (((mlookI (mputI (mputI (mputI (mputI (mputI (@List.nil (Int × Int)) (110 : Int) (10 : Int)) (116 : Int) (9 : Int)) (48 : Int) (0 : Int)) (92 : Int) (92 : Int)) (39 : Int) (39 : Int)) (strAt s (2 : Int))).getD (0 : Int), ((4 : Int), ())), ())
     else
      some (((0 : Int), ((0 : Int), ())), ())
     else none
    else
     if (decide ((3 : Int) ≤ I s.length)) = true then
      if (decide ((0 : Int) ≤ (1 : Int) ∧ (1 : Int) < I s.length)) = true then
      if (!decide (strAt s (1 : Int) = (39 : Int))) = true then
       if (decide ((0 : Int) ≤ (1 : Int) ∧ (1 : Int) < I s.length)) = true then
       if (!decide (strAt s (1 : Int) = (92 : Int))) = true then
        if (decide ((0 : Int) ≤ (1 : Int) ∧ (1 : Int) < I s.length)) = true then
        if (!decide (strAt s (1 : Int) = (10 : Int))) = true then
         if (decide ((0 : Int) ≤ (2 : Int) ∧ (2 : Int) < I s.length)) = true then
         if (decide (strAt s (2 : Int) = (39 : Int))) = true then
          if (decide ((0 : Int) ≤ (1 : Int) ∧ (1 : Int) < I s.length)) = true then
          if (inR (strAt s (1 : Int))) = true then
          some ((strAt s (1 : Int), ((3 : Int), ())), ())
          else none
          else none
         else
          some (((0 : Int), ((0 : Int), ())), ())
         else none
        else
         some (((0 : Int), ((0 : Int), ())), ())
        else none
       else
        some (((0 : Int), ((0 : Int), ())), ())
       else none
      else
       some (((0 : Int), ((0 : Int), ())), ())
      else none
     else
      some (((0 : Int), ((0 : Int), ())), ())
    else none
   else
    if (decide ((3 : Int) ≤ I s.length)) = true then
     if (decide ((0 : Int) ≤ (1 : Int) ∧ (1 : Int) < I s.length)) = true then
     if (!decide (strAt s (1 : Int) = (39 : Int))) = true then
      if (decide ((0 : Int) ≤ (1 : Int) ∧ (1 : Int) < I s.length)) = true then
      if (!decide (strAt s (1 : Int) = (92 : Int))) = true then
       if (decide ((0 : Int) ≤ (1 : Int) ∧ (1 : Int) < I s.length)) = true then
       if (!decide (strAt s (1 : Int) = (10 : Int))) = true then
        if (decide ((0 : Int) ≤ (2 : Int) ∧ (2 : Int) < I s.length)) = true then
        if (decide (strAt s (2 : Int) = (39 : Int))) = true then
         if (decide ((0 : Int) ≤ (1 : Int) ∧ (1 : Int) < I s.length)) = true then
         if (inR (strAt s (1 : Int))) = true then
         some ((strAt s (1 : Int), ((3 : Int), ())), ())
         else none
         else none
        else
         some (((0 : Int), ((0 : Int), ())), ())
        else none
       else
        some (((0 : Int), ((0 : Int), ())), ())
       else none
      else
       some (((0 : Int), ((0 : Int), ())), ())
      else none
     else
      some (((0 : Int), ((0 : Int), ())), ())
     else none
    else
     some (((0 : Int), ((0 : Int), ())), ())
   else none
  else
   if (decide ((3 : Int) ≤ I s.length)) = true then
    if (decide ((0 : Int) ≤ (1 : Int) ∧ (1 : Int) < I s.length)) = true then
    if (!decide (strAt s (1 : Int) = (39 : Int))) = true then
     if (decide ((0 : Int) ≤ (1 : Int) ∧ (1 : Int) < I s.length)) = true then
     if (!decide (strAt s (1 : Int) = (92 : Int))) = true then
      if (decide ((0 : Int) ≤ (1 : Int) ∧ (1 : Int) < I s.length)) = true then
      if (!decide (strAt s (1 : Int) = (10 : Int))) = true then
       if (decide ((0 : Int) ≤ (2 : Int) ∧ (2 : Int) < I s.length)) = true then
       if (decide (strAt s (2 : Int) = (39 : Int))) = true then
        if (decide ((0 : Int) ≤ (1 : Int) ∧ (1 : Int) < I s.length)) = true then
        if (inR (strAt s (1 : Int))) = true then
        some ((strAt s (1 : Int), ((3 : Int), ())), ())
        else none
        else none
       else
        some (((0 : Int), ((0 : Int), ())), ())
       else none
      else
       some (((0 : Int), ((0 : Int), ())), ())
      else none
     else
      some (((0 : Int), ((0 : Int), ())), ())
     else none
    else
     some (((0 : Int), ((0 : Int), ())), ())
    else none
   else
    some (((0 : Int), ((0 : Int), ())), ()) := by kernel_rfl

def Tryd.m14.p : Pln := ⟨[], 0, ⟨[], []⟩, ⟨[.own 1 9], []⟩, true, [], []⟩
noncomputable def Tryd.m14.E : Env En.Dop.D2 := envOf Tryd.prog 14 Tryd.tb [Tryd.fields.c] Tryd.m14.p
theorem Tryd.m14.ok : plnOk En.Dop.D2 Tryd.prog 14 Tryd.m14.p = true := by kernel_rfl
noncomputable def Tryd.m14.c : Ctr En.Dop.D2 := ⟨14, Tryd.m14.p.bn, Tryd.m14.p.sp, Tryd.m14.p.rs, Tryd.m14.p.flat, .opt (Tryd.m14.E.run 3000 Tryd.m14.p.sp)⟩
theorem Tryd.m14.holds : Tryd.m14.c.Holds Tryd.prog := fun_ctr 3000 Tryd.tbOk (hct_cons Tryd.fields.holds hct_nil) Tryd.m14.ok
noncomputable def Tryd.m14 : Option (Spec.D En.Dop.D2 ⟨[.own 1 9], []⟩) := Tryd.m14.E.run 3000 Tryd.m14.p.sp ((), ())
theorem Tryd.m14_eq : Tryd.m14 =
  if (okL (((60 : UInt8) :: (60 : UInt8) :: (61 : UInt8) :: (32 : UInt8) :: (62 : UInt8) :: (62 : UInt8) :: (61 : UInt8) :: (32 : UInt8) :: (43 : UInt8) :: (43 : UInt8) :: (32 : UInt8) :: (45 : UInt8) :: (45 : UInt8) :: (32 : UInt8) :: (45 : UInt8) :: (62 : UInt8) :: (32 : UInt8) :: (43 : UInt8) :: (61 : UInt8) :: (32 : UInt8) :: (45 : UInt8) :: (61 : UInt8) :: (32 : UInt8) :: (42 : UInt8) :: (61 : UInt8) :: (32 : UInt8) :: (47 : UInt8) :: (61 : UInt8) :: (32 : UInt8) :: (37 : UInt8) :: (61 : UInt8) :: (32 : UInt8) :: (38 : UInt8) :: (61 : UInt8) :: (32 : UInt8) :: (124 : UInt8) :: (61 : UInt8) :: (32 : UInt8) :: (94 : UInt8) :: (61 : UInt8) :: (32 : UInt8) :: (60 : UInt8) :: (60 : UInt8) :: (32 : UInt8) :: (62 : UInt8) :: (62 : UInt8) :: (32 : UInt8) :: (60 : UInt8) :: (61 : UInt8) :: (32 : UInt8) :: (62 : UInt8) :: (61 : UInt8) :: (32 : UInt8) :: (61 : UInt8) :: (61 : UInt8) :: (32 : UInt8) :: @List.nil UInt8).append ((33 : UInt8) :: (61 : UInt8) :: (32 : UInt8) :: (38 : UInt8) :: (38 : UInt8) :: (32 : UInt8) :: (124 : UInt8) :: (124 : UInt8) :: (32 : UInt8) :: (43 : UInt8) :: (32 : UInt8) :: (45 : UInt8) :: (32 : UInt8) :: (42 : UInt8) :: (32 : UInt8) :: (47 : UInt8) :: (32 : UInt8) :: (37 : UInt8) :: (32 : UInt8) :: (38 : UInt8) :: (32 : UInt8) :: (124 : UInt8) :: (32 : UInt8) :: (94 : UInt8) :: (32 : UInt8) :: (126 : UInt8) :: (32 : UInt8) :: (33 : UInt8) :: (32 : UInt8) :: (60 : UInt8) :: (32 : UInt8) :: (62 : UInt8) :: (32 : UInt8) :: (61 : UInt8) :: (32 : UInt8) :: (63 : UInt8) :: (32 : UInt8) :: (58 : UInt8) :: (32 : UInt8) :: (59 : UInt8) :: (32 : UInt8) :: (44 : UInt8) :: (32 : UInt8) :: (46 : UInt8) :: (32 : UInt8) :: (40 : UInt8) :: (32 : UInt8) :: (41 : UInt8) :: (32 : UInt8) :: (91 : UInt8) :: (32 : UInt8) :: (93 : UInt8) :: (32 : UInt8) :: (123 : UInt8) :: (32 : UInt8) :: (125 : UInt8) :: @List.nil UInt8)) && decide ((Lib.fields (((60 : UInt8) :: (60 : UInt8) :: (61 : UInt8) :: (32 : UInt8) :: (62 : UInt8) :: (62 : UInt8) :: (61 : UInt8) :: (32 : UInt8) :: (43 : UInt8) :: (43 : UInt8) :: (32 : UInt8) :: (45 : UInt8) :: (45 : UInt8) :: (32 : UInt8) :: (45 : UInt8) :: (62 : UInt8) :: (32 : UInt8) :: (43 : UInt8) :: (61 : UInt8) :: (32 : UInt8) :: (45 : UInt8) :: (61 : UInt8) :: (32 : UInt8) :: (42 : UInt8) :: (61 : UInt8) :: (32 : UInt8) :: (47 : UInt8) :: (61 : UInt8) :: (32 : UInt8) :: (37 : UInt8) :: (61 : UInt8) :: (32 : UInt8) :: (38 : UInt8) :: (61 : UInt8) :: (32 : UInt8) :: (124 : UInt8) :: (61 : UInt8) :: (32 : UInt8) :: (94 : UInt8) :: (61 : UInt8) :: (32 : UInt8) :: (60 : UInt8) :: (60 : UInt8) :: (32 : UInt8) :: (62 : UInt8) :: (62 : UInt8) :: (32 : UInt8) :: (60 : UInt8) :: (61 : UInt8) :: (32 : UInt8) :: (62 : UInt8) :: (61 : UInt8) :: (32 : UInt8) :: (61 : UInt8) :: (61 : UInt8) :: (32 : UInt8) :: @List.nil UInt8).append ((33 : UInt8) :: (61 : UInt8) :: (32 : UInt8) :: (38 : UInt8) :: (38 : UInt8) :: (32 : UInt8) :: (124 : UInt8) :: (124 : UInt8) :: (32 : UInt8) :: (43 : UInt8) :: (32 : UInt8) :: (45 : UInt8) :: (32 : UInt8) :: (42 : UInt8) :: (32 : UInt8) :: (47 : UInt8) :: (32 : UInt8) :: (37 : UInt8) :: (32 : UInt8) :: (38 : UInt8) :: (32 : UInt8) :: (124 : UInt8) :: (32 : UInt8) :: (94 : UInt8) :: (32 : UInt8) :: (126 : UInt8) :: (32 : UInt8) :: (33 : UInt8) :: (32 : UInt8) :: (60 : UInt8) :: (32 : UInt8) :: (62 : UInt8) :: (32 : UInt8) :: (61 : UInt8) :: (32 : UInt8) :: (63 : UInt8) :: (32 : UInt8) :: (58 : UInt8) :: (32 : UInt8) :: (59 : UInt8) :: (32 : UInt8) :: (44 : UInt8) :: (32 : UInt8) :: (46 : UInt8) :: (32 : UInt8) :: (40 : UInt8) :: (32 : UInt8) :: (41 : UInt8) :: (32 : UInt8) :: (91 : UInt8) :: (32 : UInt8) :: (93 : UInt8) :: (32 : UInt8) :: (123 : UInt8) :: (32 : UInt8) :: (125 : UInt8) :: @List.nil UInt8))).length ≤ maxLen)) = true then
  some ((List.map (fun (a : List UInt8) => a) (Lib.fields (((60 : UInt8) :: (60 : UInt8) :: (61 : UInt8) :: (32 : UInt8) :: (62 : UInt8) :: (62 : UInt8) :: (61 : UInt8) :: (32 : UInt8) :: (43 : UInt8) :: (43 : UInt8) :: (32 : UInt8) :: (45 : UInt8) :: (45 : UInt8) :: (32 : UInt8) :: (45 : UInt8) :: (62 : UInt8) :: (32 : UInt8) :: (43 : UInt8) :: (61 : UInt8) :: (32 : UInt8) :: (45 : UInt8) :: (61 : UInt8) :: (32 : UInt8) :: (42 : UInt8) :: (61 : UInt8) :: (32 : UInt8) :: (47 : UInt8) :: (61 : UInt8) :: (32 : UInt8) :: (37 : UInt8) :: (61 : UInt8) :: (32 : UInt8) :: (38 : UInt8) :: (61 : UInt8) :: (32 : UInt8) :: (124 : UInt8) :: (61 : UInt8) :: (32 : UInt8) :: (94 : UInt8) :: (61 : UInt8) :: (32 : UInt8) :: (60 : UInt8) :: (60 : UInt8) :: (32 : UInt8) :: (62 : UInt8) :: (62 : UInt8) :: (32 : UInt8) :: (60 : UInt8) :: (61 : UInt8) :: (32 : UInt8) :: (62 : UInt8) :: (61 : UInt8) :: (32 : UInt8) :: (61 : UInt8) :: (61 : UInt8) :: (32 : UInt8) :: @List.nil UInt8).append ((33 : UInt8) :: (61 : UInt8) :: (32 : UInt8) :: (38 : UInt8) :: (38 : UInt8) :: (32 : UInt8) :: (124 : UInt8) :: (124 : UInt8) :: (32 : UInt8) :: (43 : UInt8) :: (32 : UInt8) :: (45 : UInt8) :: (32 : UInt8) :: (42 : UInt8) :: (32 : UInt8) :: (47 : UInt8) :: (32 : UInt8) :: (37 : UInt8) :: (32 : UInt8) :: (38 : UInt8) :: (32 : UInt8) :: (124 : UInt8) :: (32 : UInt8) :: (94 : UInt8) :: (32 : UInt8) :: (126 : UInt8) :: (32 : UInt8) :: (33 : UInt8) :: (32 : UInt8) :: (60 : UInt8) :: (32 : UInt8) :: (62 : UInt8) :: (32 : UInt8) :: (61 : UInt8) :: (32 : UInt8) :: (63 : UInt8) :: (32 : UInt8) :: (58 : UInt8) :: (32 : UInt8) :: (59 : UInt8) :: (32 : UInt8) :: (44 : UInt8) :: (32 : UInt8) :: (46 : UInt8) :: (32 : UInt8) :: (40 : UInt8) :: (32 : UInt8) :: (41 : UInt8) :: (32 : UInt8) :: (91 : UInt8) :: (32 : UInt8) :: (93 : UInt8) :: (32 : UInt8) :: (123 : UInt8) :: (32 : UInt8) :: (125 : UInt8) :: @List.nil UInt8))), ()), ())
  else none := by kernel_rfl

def Tryd.m43.p : Pln := ⟨[(2, ⟨[[0, 0, 0, 0, 1, 0, 1], [0, 1, 0, 0, 1, 0, 1], [2, 0, 0, 1, 0, 1], [1, 0], [0, 1, 1]], [0, 5, 6, 7], 0, ⟨[.fd .str, .own 1 9, .fd (.int .i64), .fd (.int .i64)], []⟩⟩)], 0, ⟨[.fd .str], []⟩, ⟨[.fd .str], []⟩, true, [], []⟩
noncomputable def Tryd.m43.E : Env En.Dop.D2 := envOf Tryd.prog 43 Tryd.tb [Tryd.m14.c, Tryd.hasPrefix.c] Tryd.m43.p
theorem Tryd.m43.ok : plnOk En.Dop.D2 Tryd.prog 43 Tryd.m43.p = true := by kernel_rfl
noncomputable def Tryd.m43.c : Ctr En.Dop.D2 := ⟨43, Tryd.m43.p.bn, Tryd.m43.p.sp, Tryd.m43.p.rs, Tryd.m43.p.flat, .opt (Tryd.m43.E.run 3000 Tryd.m43.p.sp)⟩
theorem Tryd.m43.holds : Tryd.m43.c.Holds Tryd.prog := fun_ctr 3000 Tryd.tbOk (hct_cons Tryd.m14.holds (hct_cons Tryd.hasPrefix.holds hct_nil)) Tryd.m43.ok
noncomputable def Tryd.m43 (s : List UInt8) : Option (Spec.D En.Dop.D2 ⟨[.fd .str], []⟩) := Tryd.m43.E.run 3000 Tryd.m43.p.sp ((s, ()), ())
noncomputable def Tryd.m43_2 (s : List UInt8) (t5 : List (List UInt8)) (t6 : Int) (t7 : Int) : Option (Spec.D En.Dop.D2 ⟨[.fd .str], []⟩) := Tryd.m43.E.cut 3000 2 ((s, t5, t6, t7, ()), ())
theorem Tryd.m43_eq (s : List UInt8) : Tryd.m43 s =
  (Tryd.m14).bind fun y2 =>
   Tryd.m43_2 (s) (y2.fst.fst) (I y2.fst.fst.length) ((0 : Int)) := by kernel_rfl
theorem Tryd.m43_2_eq (s : List UInt8) (t5 : List (List UInt8)) (t6 : Int) (t7 : Int) : Tryd.m43_2 s t5 t6 t7 =
  if (decide (t7 < t6)) = true then
   if (decide ((0 : Int) ≤ t7 ∧ t7 < I t5.length)) = true then
   if (decide (t7.toNat < t5.length)) = true then
   if (true) = true then
   if (Lib.hasPrefix s (@List.getD (List UInt8) t5 t7.toNat (@List.nil UInt8))) = true then
    some ((@List.getD (List UInt8) t5 t7.toNat (@List.nil UInt8), ()), ())
   else
    if (inR (t7 + (1 : Int))) = true then
    Tryd.m43_2 (s) (t5) (t6) (t7 + (1 : Int))
    else none
   else none
   else none
   else none
  else
   some ((@List.nil UInt8, ()), ()) := Env.cut_eq' (E := Tryd.m43.E) (f0 := 3000) (c := 2) (q := ⟨[[0, 0, 0, 0, 1, 0, 1], [0, 1, 0, 0, 1, 0, 1], [2, 0, 0, 1, 0, 1], [1, 0], [0, 1, 1]], [0, 5, 6, 7], 0, ⟨[.fd .str, .own 1 9, .fd (.int .i64), .fd (.int .i64)], []⟩⟩) (by kernel_rfl) ((s, t5, t6, t7, ()), ()) (by kernel_rfl) (by kernel_rfl)

def Tryd.m22.p : Pln := ⟨[], 0, ⟨[.fd .str], []⟩, ⟨[.st 4, .fd (.int .i64)], []⟩, true, [], []⟩
noncomputable def Tryd.m22.E : Env En.Dop.D2 := envOf Tryd.prog 22 Tryd.tb [Tryd.m38.c, Tryd.m39.c, Tryd.m16.c, Tryd.m37.c, Tryd.m40.c, Tryd.m41.c, Tryd.m42.c, Tryd.m43.c] Tryd.m22.p
theorem Tryd.m22.ok : plnOk En.Dop.D2 Tryd.prog 22 Tryd.m22.p = true := by kernel_rfl
noncomputable def Tryd.m22.c : Ctr En.Dop.D2 := ⟨22, Tryd.m22.p.bn, Tryd.m22.p.sp, Tryd.m22.p.rs, Tryd.m22.p.flat, .opt (Tryd.m22.E.run 3000 Tryd.m22.p.sp)⟩
theorem Tryd.m22.holds : Tryd.m22.c.Holds Tryd.prog := fun_ctr 3000 Tryd.tbOk (hct_cons Tryd.m38.holds (hct_cons Tryd.m39.holds (hct_cons Tryd.m16.holds (hct_cons Tryd.m37.holds (hct_cons Tryd.m40.holds (hct_cons Tryd.m41.holds (hct_cons Tryd.m42.holds (hct_cons Tryd.m43.holds hct_nil)))))))) Tryd.m22.ok
noncomputable def Tryd.m22 (o : List UInt8) : Option (Spec.D En.Dop.D2 ⟨[.st 4, .fd (.int .i64)], []⟩) := Tryd.m22.E.run 3000 Tryd.m22.p.sp ((o, ()), ())
theorem Tryd.m22_eq (o : List UInt8) : Tryd.m22 o =
  if (decide ((0 : Int) ≤ (0 : Int) ∧ (0 : Int) < I o.length)) = true then
  (Tryd.m38 (strAt o (0 : Int))).bind fun y2 =>
   if (y2.fst.fst) = true then
    (Tryd.m39 (o)).bind fun y4 =>
     if (decide ((0 : Int) ≤ (0 : Int) ∧ (0 : Int) ≤ y4.fst.fst ∧ y4.fst.fst ≤ I o.length)) = true then
     (Tryd.m16 (List.drop (Int.toNat (0 : Int)) (List.take y4.fst.fst.toNat o))).bind fun y5 =>
      if (y5.fst.fst) = true then
       (Tryd.m37 ((2 : Int)) ((0 : Int)) (y4.fst.fst) (o)).bind fun y7 =>
        some ((y7.fst.fst, (y7.fst.snd.fst, ())), ())
      else
       (Tryd.m37 ((1 : Int)) ((0 : Int)) (y4.fst.fst) (o)).bind fun y7 =>
        some ((y7.fst.fst, (y7.fst.snd.fst, ())), ())
     else none
   else
    if (decide ((0 : Int) ≤ (0 : Int) ∧ (0 : Int) < I o.length)) = true then
    (Tryd.m40 (strAt o (0 : Int))).bind fun y4 =>
     if (y4.fst.fst) = true then
      (Tryd.m39 (o)).bind fun y6 =>
       if (decide ((0 : Int) ≤ (0 : Int) ∧ (0 : Int) ≤ y6.fst.fst ∧ y6.fst.fst ≤ I o.length)) = true then
       (Tryd.m41 (List.drop (Int.toNat (0 : Int)) (List.take y6.fst.fst.toNat o))).bind fun y7 =>
        if (!y7.fst.snd.fst) = true then
         some ((Dop.Tok.mk (0 : Int) (@List.nil UInt8) (0 : Int) (0 : Int), ((3 : Int), ())), ())
        else
         (Tryd.m37 ((3 : Int)) (y7.fst.fst) (y6.fst.fst) (o)).bind fun y9 =>
          some ((y9.fst.fst, (y9.fst.snd.fst, ())), ())
       else none
     else
      if (decide ((0 : Int) ≤ (0 : Int) ∧ (0 : Int) < I o.length)) = true then
      if (decide (strAt o (0 : Int) = (39 : Int))) = true then
       (Tryd.m42 (o)).bind fun y7 =>
        if (decide ((0 : Int) < y7.fst.snd.fst)) = true then
         (Tryd.m37 ((3 : Int)) (y7.fst.fst) (y7.fst.snd.fst) (o)).bind fun y9 =>
          some ((y9.fst.fst, (y9.fst.snd.fst, ())), ())
        else
         some ((Dop.Tok.mk (0 : Int) (@List.nil UInt8) (0 : Int) (0 : Int), ((2 : Int), ())), ())
      else
       (Tryd.m43 (o)).bind fun y7 =>
        if (!decide (y7.fst.fst = @List.nil UInt8)) = true then
         (Tryd.m37 ((4 : Int)) ((0 : Int)) (I y7.fst.fst.length) (o)).bind fun y9 =>
          some ((y9.fst.fst, (y9.fst.snd.fst, ())), ())
        else
         some ((Dop.Tok.mk (0 : Int) (@List.nil UInt8) (0 : Int) (0 : Int), ((2 : Int), ())), ())
      else none
    else none
  else none := by kernel_rfl

def Tryd.m11.p : Pln := ⟨[(5, ⟨[[0, 0, 0, 0, 0, 1, 1, 1, 1], [0, 1, 0, 0, 0, 1, 1, 1, 1], [1, 1], [2, 0, 0, 1, 1, 1, 1], [1, 0]], [0, 5, 6], 0, ⟨[.fd .str, .own 4 32, .fd (.int .i64)], []⟩⟩)], 0, ⟨[.fd .str], []⟩, ⟨[.own 4 32, .fd (.int .i64), .fd (.int .i64)], []⟩, true, [], []⟩
noncomputable def Tryd.m11.E : Env En.Dop.D2 := envOf Tryd.prog 11 Tryd.tb [Tryd.m21.c, Tryd.m22.c] Tryd.m11.p
theorem Tryd.m11.ok : plnOk En.Dop.D2 Tryd.prog 11 Tryd.m11.p = true := by kernel_rfl
noncomputable def Tryd.m11.c : Ctr En.Dop.D2 := ⟨11, Tryd.m11.p.bn, Tryd.m11.p.sp, Tryd.m11.p.rs, Tryd.m11.p.flat, .opt (Tryd.m11.E.run 3000 Tryd.m11.p.sp)⟩
theorem Tryd.m11.holds : Tryd.m11.c.Holds Tryd.prog := fun_ctr 3000 Tryd.tbOk (hct_cons Tryd.m21.holds (hct_cons Tryd.m22.holds hct_nil)) Tryd.m11.ok
noncomputable def Tryd.m11 (s : List UInt8) : Option (Spec.D En.Dop.D2 ⟨[.own 4 32, .fd (.int .i64), .fd (.int .i64)], []⟩) := Tryd.m11.E.run 3000 Tryd.m11.p.sp ((s, ()), ())
noncomputable def Tryd.m11_5 (s : List UInt8) (out : List (En.Dop.Tok)) (at_ : Int) : Option (Spec.D En.Dop.D2 ⟨[.own 4 32, .fd (.int .i64), .fd (.int .i64)], []⟩) := Tryd.m11.E.cut 3000 5 ((s, out, at_, ()), ())
theorem Tryd.m11_eq (s : List UInt8) : Tryd.m11 s =
  if (decide ((32768 : Int) < I s.length)) = true then
   some ((@List.nil Dop.Tok, ((0 : Int), ((4 : Int), ()))), ())
  else
   Tryd.m11_5 (s) (@List.nil Dop.Tok) ((0 : Int)) := by kernel_rfl
theorem Tryd.m11_5_eq (s : List UInt8) (out : List (En.Dop.Tok)) (at_ : Int) : Tryd.m11_5 s out at_ =
  if (decide ((0 : Int) ≤ at_ ∧ at_ ≤ I s.length ∧ I s.length ≤ I s.length)) = true then
  (Tryd.m21 (List.drop at_.toNat (List.take (I s.length).toNat s))).bind fun y2 =>
   if (inR (at_ + y2.fst.fst)) = true then
   if (!y2.fst.snd.fst) = true then
    some ((@List.nil Dop.Tok, (at_ + y2.fst.fst, ((2 : Int), ()))), ())
   else
    if (decide (at_ + y2.fst.fst = I s.length)) = true then
     if (andC none (room (40 : Nat) (out.length + (Dop.Tok.mk (0 : Int) (@List.nil UInt8) (0 : Int) (at_ + y2.fst.fst) :: @List.nil Dop.Tok).length))) = true then
     some ((out ++ Dop.Tok.mk (0 : Int) (@List.nil UInt8) (0 : Int) (at_ + y2.fst.fst) :: @List.nil Dop.Tok, ((0 : Int), ((0 : Int), ()))), ())
     else none
    else
     if (decide ((0 : Int) ≤ at_ + y2.fst.fst ∧ at_ + y2.fst.fst ≤ I s.length ∧ I s.length ≤ I s.length)) = true then
     (Tryd.m22 (List.drop (at_ + y2.fst.fst).toNat (List.take (I s.length).toNat s))).bind fun y5 =>
      if (!decide (y5.fst.snd.fst = (0 : Int))) = true then
       some ((@List.nil Dop.Tok, (at_ + y2.fst.fst, (y5.fst.snd.fst, ()))), ())
      else
       if (decide (I out.length = (8192 : Int))) = true then
        some ((@List.nil Dop.Tok, (at_ + y2.fst.fst, ((4 : Int), ()))), ())
       else
        if (andC none (room (40 : Nat) (out.length + (Dop.Tok.mk y5.fst.fst.kind y5.fst.fst.text y5.fst.fst.n (at_ + y2.fst.fst) :: @List.nil Dop.Tok).length))) = true then
        if (inR (at_ + y2.fst.fst + I y5.fst.fst.text.length)) = true then
        Tryd.m11_5 (s) (out ++ Dop.Tok.mk y5.fst.fst.kind y5.fst.fst.text y5.fst.fst.n (at_ + y2.fst.fst) :: @List.nil Dop.Tok) (at_ + y2.fst.fst + I y5.fst.fst.text.length)
        else none
        else none
     else none
   else none
  else none := Env.cut_eq' (E := Tryd.m11.E) (f0 := 3000) (c := 5) (q := ⟨[[0, 0, 0, 0, 0, 1, 1, 1, 1], [0, 1, 0, 0, 0, 1, 1, 1, 1], [1, 1], [2, 0, 0, 1, 1, 1, 1], [1, 0]], [0, 5, 6], 0, ⟨[.fd .str, .own 4 32, .fd (.int .i64)], []⟩⟩) (by kernel_rfl) ((s, out, at_, ()), ()) (by kernel_rfl) (by kernel_rfl)

def Tryd.m10.p : Pln := ⟨[], 0, ⟨[], []⟩, ⟨[.fd .bool], []⟩, true, [], []⟩
noncomputable def Tryd.m10.E : Env En.Dop.D2 := envOf Tryd.prog 10 Tryd.tb [Tryd.m11.c, Tryd.m16.c] Tryd.m10.p
theorem Tryd.m10.ok : plnOk En.Dop.D2 Tryd.prog 10 Tryd.m10.p = true := by kernel_rfl
noncomputable def Tryd.m10.c : Ctr En.Dop.D2 := ⟨10, Tryd.m10.p.bn, Tryd.m10.p.sp, Tryd.m10.p.rs, Tryd.m10.p.flat, .opt (Tryd.m10.E.run 3000 Tryd.m10.p.sp)⟩
theorem Tryd.m10.holds : Tryd.m10.c.Holds Tryd.prog := fun_ctr 3000 Tryd.tbOk (hct_cons Tryd.m11.holds (hct_cons Tryd.m16.holds hct_nil)) Tryd.m10.ok
noncomputable def Tryd.m10 : Option (Spec.D En.Dop.D2 ⟨[.fd .bool], []⟩) := Tryd.m10.E.run 3000 Tryd.m10.p.sp ((), ())
theorem Tryd.m10_eq : Tryd.m10 =
  (Tryd.m11 ((97 : UInt8) :: (43 : UInt8) :: (43 : UInt8) :: (43 : UInt8) :: (98 : UInt8) :: @List.nil UInt8)).bind fun y2 =>
   if (decide (y2.fst.snd.snd.fst = (0 : Int))) = true then
    if (decide (I y2.fst.fst.length = (5 : Int))) = true then
     if (decide ((0 : Int) ≤ (1 : Int) ∧ (1 : Int) < I y2.fst.fst.length)) = true then
     if (decide (Int.toNat (1 : Int) < y2.fst.fst.length)) = true then
     if (decide ((@List.getD Dop.Tok y2.fst.fst (Int.toNat (1 : Int)) Dop.d4).text = (43 : UInt8) :: (43 : UInt8) :: @List.nil UInt8)) = true then
      if (decide ((0 : Int) ≤ (2 : Int) ∧ (2 : Int) < I y2.fst.fst.length)) = true then
      if (decide (Int.toNat (2 : Int) < y2.fst.fst.length)) = true then
      if (decide ((@List.getD Dop.Tok y2.fst.fst (Int.toNat (2 : Int)) Dop.d4).text = (43 : UInt8) :: @List.nil UInt8)) = true then
       (Tryd.m16 ((103 : UInt8) :: (111 : UInt8) :: (116 : UInt8) :: (111 : UInt8) :: @List.nil UInt8)).bind fun y7 =>
        some ((y7.fst.fst, ()), ())
      else
       some ((false, ()), ())
      else none
      else none
     else
      some ((false, ()), ())
     else none
     else none
    else
     some ((false, ()), ())
   else
    some ((false, ()), ()) := by kernel_rfl

def Tryd.m28.p : Pln := ⟨[], 0, ⟨[.fd .str, .fd (.int .i64), .fd .str], []⟩, ⟨[.fd .bool], []⟩, true, [], []⟩
noncomputable def Tryd.m28.E : Env En.Dop.D2 := envOf Tryd.prog 28 Tryd.tb [] Tryd.m28.p
theorem Tryd.m28.ok : plnOk En.Dop.D2 Tryd.prog 28 Tryd.m28.p = true := by kernel_rfl
noncomputable def Tryd.m28.c : Ctr En.Dop.D2 := ⟨28, Tryd.m28.p.bn, Tryd.m28.p.sp, Tryd.m28.p.rs, Tryd.m28.p.flat, .opt (Tryd.m28.E.run 3000 Tryd.m28.p.sp)⟩
theorem Tryd.m28.holds : Tryd.m28.c.Holds Tryd.prog := fun_ctr 3000 Tryd.tbOk hct_nil Tryd.m28.ok
noncomputable def Tryd.m28 (s : List UInt8) (k : Int) (t : List UInt8) : Option (Spec.D En.Dop.D2 ⟨[.fd .bool], []⟩) := Tryd.m28.E.run 3000 Tryd.m28.p.sp ((s, k, t, ()), ())
theorem Tryd.m28_eq (s : List UInt8) (k : Int) (t : List UInt8) : Tryd.m28 s k t =
  if (inR (k + I t.length)) = true then
  if (decide (k + I t.length ≤ I s.length)) = true then
   if (inR (k + I t.length)) = true then
   if (decide ((0 : Int) ≤ k ∧ k ≤ k + I t.length ∧ k + I t.length ≤ I s.length)) = true then
   some ((decide (List.drop k.toNat (List.take (k + I t.length).toNat s) = t), ()), ())
   else none
   else none
  else
   some ((false, ()), ())
  else none := by kernel_rfl

def Tryd.m23.p : Pln := ⟨[(1, ⟨[[0, 0, 0, 0, 0, 0, 1], [0, 1, 0, 0, 0, 0, 1], [0, 1, 0, 0, 0, 1], [2, 0, 0, 0, 1], [1, 0], [0, 1, 1]], [0, 1], 0, ⟨[.fd .str, .fd (.int .i64)], []⟩⟩), (5, ⟨[[0, 0, 0, 0, 0, 0, 1, 1, 1, 0, 1, 0, 0, 0, 1], [0, 1, 0, 0, 0, 0, 1, 1, 1, 0, 1, 0, 0, 0, 1], [0, 1, 0, 0, 0, 1, 1, 1, 0, 1, 0, 0, 0, 1], [2, 0, 0, 0, 1, 1, 1, 0, 1, 0, 0, 0, 1], [1, 2], [1, 1], [2, 0, 0, 0, 1], [1, 0], [0, 1, 1]], [0, 1], 0, ⟨[.fd .str, .fd (.int .i64)], []⟩⟩), (9, ⟨[[0, 0, 0, 0, 0, 0, 1, 0, 1, 1, 1, 1, 1, 0, 1, 0, 0, 0, 1], [0, 1, 0, 0, 0, 0, 1, 0, 1, 1, 1, 1, 1, 0, 1, 0, 0, 0, 1], [0, 1, 0, 0, 0, 1, 0, 1, 1, 1, 1, 1, 0, 1, 0, 0, 0, 1], [2, 0, 0, 0, 1, 0, 1, 1, 1, 1, 1, 0, 1, 0, 0, 0, 1], [1, 4], [0, 1, 1, 0, 1, 1, 1, 1, 1, 0, 1, 0, 0, 0, 1], [1, 1], [2, 0, 0, 0, 1], [1, 0], [0, 1, 1]], [0, 1, 6], 0, ⟨[.fd .str, .fd (.int .i64), .fd (.int .i64)], []⟩⟩)], 0, ⟨[.fd .str, .fd (.int .i64)], []⟩, ⟨[.fd (.int .i64), .fd .bool], []⟩, true, [], []⟩
noncomputable def Tryd.m23.E : Env En.Dop.D2 := envOf Tryd.prog 23 Tryd.tb [Tryd.m28.c] Tryd.m23.p
theorem Tryd.m23.ok : plnOk En.Dop.D2 Tryd.prog 23 Tryd.m23.p = true := by kernel_rfl
noncomputable def Tryd.m23.c : Ctr En.Dop.D2 := ⟨23, Tryd.m23.p.bn, Tryd.m23.p.sp, Tryd.m23.p.rs, Tryd.m23.p.flat, .opt (Tryd.m23.E.run 3000 Tryd.m23.p.sp)⟩
theorem Tryd.m23.holds : Tryd.m23.c.Holds Tryd.prog := fun_ctr 3000 Tryd.tbOk (hct_cons Tryd.m28.holds hct_nil) Tryd.m23.ok
noncomputable def Tryd.m23 (o : List UInt8) (t1 : Int) : Option (Spec.D En.Dop.D2 ⟨[.fd (.int .i64), .fd .bool], []⟩) := Tryd.m23.E.run 3000 Tryd.m23.p.sp ((o, t1, ()), ())
noncomputable def Tryd.m23_1 (o : List UInt8) (t1 : Int) : Option (Spec.D En.Dop.D2 ⟨[.fd (.int .i64), .fd .bool], []⟩) := Tryd.m23.E.cut 3000 1 ((o, t1, ()), ())
noncomputable def Tryd.m23_5 (o : List UInt8) (t1 : Int) : Option (Spec.D En.Dop.D2 ⟨[.fd (.int .i64), .fd .bool], []⟩) := Tryd.m23.E.cut 3000 5 ((o, t1, ()), ())
noncomputable def Tryd.m23_9 (o : List UInt8) (t1 : Int) (t6 : Int) : Option (Spec.D En.Dop.D2 ⟨[.fd (.int .i64), .fd .bool], []⟩) := Tryd.m23.E.cut 3000 9 ((o, t1, t6, ()), ())
theorem Tryd.m23_eq (o : List UInt8) (t1 : Int) : Tryd.m23 o t1 =
  Tryd.m23_1 (o) (t1) := by kernel_rfl
theorem Tryd.m23_1_eq (o : List UInt8) (t1 : Int) : Tryd.m23_1 o t1 =
  if (decide (t1 < I o.length)) = true then
   if (decide ((0 : Int) ≤ t1 ∧ t1 < I o.length)) = true then
   if (decide (strAt o t1 = (32 : Int))) = true then
    if (inR (t1 + (1 : Int))) = true then
    Tryd.m23_1 (o) (t1 + (1 : Int))
    else none
   else
    if (decide ((0 : Int) ≤ t1 ∧ t1 < I o.length)) = true then
    if (decide (strAt o t1 = (9 : Int))) = true then
     if (inR (t1 + (1 : Int))) = true then
     Tryd.m23_1 (o) (t1 + (1 : Int))
     else none
    else
     if (decide ((0 : Int) ≤ t1 ∧ t1 < I o.length)) = true then
     if (decide (strAt o t1 = (10 : Int))) = true then
      if (inR (t1 + (1 : Int))) = true then
      Tryd.m23_1 (o) (t1 + (1 : Int))
      else none
     else
      if (decide ((0 : Int) ≤ t1 ∧ t1 < I o.length)) = true then
      if (decide (strAt o t1 = (13 : Int))) = true then
       if (inR (t1 + (1 : Int))) = true then
       Tryd.m23_1 (o) (t1 + (1 : Int))
       else none
      else
       (Tryd.m28 (o) (t1) ((47 : UInt8) :: (47 : UInt8) :: @List.nil UInt8)).bind fun y7 =>
        if (y7.fst.fst) = true then
         Tryd.m23_5 (o) (t1)
        else
         (Tryd.m28 (o) (t1) ((47 : UInt8) :: (42 : UInt8) :: @List.nil UInt8)).bind fun y9 =>
          if (y9.fst.fst) = true then
           if (inR (t1 + (2 : Int))) = true then
           Tryd.m23_9 (o) (t1) (t1 + (2 : Int))
           else none
          else
           some ((t1, (true, ())), ())
      else none
     else none
    else none
   else none
  else
   some ((t1, (true, ())), ()) := Env.cut_eq' (E := Tryd.m23.E) (f0 := 3000) (c := 1) (q := ⟨[[0, 0, 0, 0, 0, 0, 1], [0, 1, 0, 0, 0, 0, 1], [0, 1, 0, 0, 0, 1], [2, 0, 0, 0, 1], [1, 0], [0, 1, 1]], [0, 1], 0, ⟨[.fd .str, .fd (.int .i64)], []⟩⟩) (by kernel_rfl) ((o, t1, ()), ()) (by kernel_rfl) (by kernel_rfl)
theorem Tryd.m23_5_eq (o : List UInt8) (t1 : Int) : Tryd.m23_5 o t1 =
  if (decide (t1 < I o.length)) = true then
   if (decide ((0 : Int) ≤ t1 ∧ t1 < I o.length)) = true then
   if (!decide (strAt o t1 = (10 : Int))) = true then
    if (inR (t1 + (1 : Int))) = true then
    Tryd.m23_5 (o) (t1 + (1 : Int))
    else none
   else
    Tryd.m23_1 (o) (t1)
   else none
  else
   Tryd.m23_1 (o) (t1) := Env.cut_eq' (E := Tryd.m23.E) (f0 := 3000) (c := 5) (q := ⟨[[0, 0, 0, 0, 0, 0, 1, 1, 1, 0, 1, 0, 0, 0, 1], [0, 1, 0, 0, 0, 0, 1, 1, 1, 0, 1, 0, 0, 0, 1], [0, 1, 0, 0, 0, 1, 1, 1, 0, 1, 0, 0, 0, 1], [2, 0, 0, 0, 1, 1, 1, 0, 1, 0, 0, 0, 1], [1, 2], [1, 1], [2, 0, 0, 0, 1], [1, 0], [0, 1, 1]], [0, 1], 0, ⟨[.fd .str, .fd (.int .i64)], []⟩⟩) (by kernel_rfl) ((o, t1, ()), ()) (by kernel_rfl) (by kernel_rfl)
theorem Tryd.m23_9_eq (o : List UInt8) (t1 : Int) (t6 : Int) : Tryd.m23_9 o t1 t6 =
  if (decide (t6 < I o.length)) = true then
   (Tryd.m28 (o) (t6) ((42 : UInt8) :: (47 : UInt8) :: @List.nil UInt8)).bind fun y3 =>
    if (!y3.fst.fst) = true then
     if (inR (t6 + (1 : Int))) = true then
     Tryd.m23_9 (o) (t1) (t6 + (1 : Int))
     else none
    else
     if (decide (I o.length ≤ t6)) = true then
      some ((t1, (false, ())), ())
     else
      if (inR (t6 + (2 : Int))) = true then
      Tryd.m23_1 (o) (t6 + (2 : Int))
      else none
  else
   if (decide (I o.length ≤ t6)) = true then
    some ((t1, (false, ())), ())
   else
    if (inR (t6 + (2 : Int))) = true then
    Tryd.m23_1 (o) (t6 + (2 : Int))
    else none := Env.cut_eq' (E := Tryd.m23.E) (f0 := 3000) (c := 9) (q := ⟨[[0, 0, 0, 0, 0, 0, 1, 0, 1, 1, 1, 1, 1, 0, 1, 0, 0, 0, 1], [0, 1, 0, 0, 0, 0, 1, 0, 1, 1, 1, 1, 1, 0, 1, 0, 0, 0, 1], [0, 1, 0, 0, 0, 1, 0, 1, 1, 1, 1, 1, 0, 1, 0, 0, 0, 1], [2, 0, 0, 0, 1, 0, 1, 1, 1, 1, 1, 0, 1, 0, 0, 0, 1], [1, 4], [0, 1, 1, 0, 1, 1, 1, 1, 1, 0, 1, 0, 0, 0, 1], [1, 1], [2, 0, 0, 0, 1], [1, 0], [0, 1, 1]], [0, 1, 6], 0, ⟨[.fd .str, .fd (.int .i64), .fd (.int .i64)], []⟩⟩) (by kernel_rfl) ((o, t1, t6, ()), ()) (by kernel_rfl) (by kernel_rfl)

def Tryd.m24.p : Pln := ⟨[], 0, ⟨[.fd (.int .u8)], []⟩, ⟨[.fd .bool], []⟩, true, [], []⟩
noncomputable def Tryd.m24.E : Env En.Dop.D2 := envOf Tryd.prog 24 Tryd.tb [] Tryd.m24.p
theorem Tryd.m24.ok : plnOk En.Dop.D2 Tryd.prog 24 Tryd.m24.p = true := by kernel_rfl
noncomputable def Tryd.m24.c : Ctr En.Dop.D2 := ⟨24, Tryd.m24.p.bn, Tryd.m24.p.sp, Tryd.m24.p.rs, Tryd.m24.p.flat, .opt (Tryd.m24.E.run 3000 Tryd.m24.p.sp)⟩
theorem Tryd.m24.holds : Tryd.m24.c.Holds Tryd.prog := fun_ctr 3000 Tryd.tbOk hct_nil Tryd.m24.ok
noncomputable def Tryd.m24 (c : Int) : Option (Spec.D En.Dop.D2 ⟨[.fd .bool], []⟩) := Tryd.m24.E.run 3000 Tryd.m24.p.sp ((c, ()), ())
theorem Tryd.m24_eq (c : Int) : Tryd.m24 c =
  if (decide ((97 : Int) ≤ c)) = true then
   if (decide (c ≤ (122 : Int))) = true then
    some ((true, ()), ())
   else
    if (decide ((65 : Int) ≤ c)) = true then
     if (decide (c ≤ (90 : Int))) = true then
      some ((true, ()), ())
     else
      some ((decide (c = (95 : Int)), ()), ())
    else
     some ((decide (c = (95 : Int)), ()), ())
  else
   if (decide ((65 : Int) ≤ c)) = true then
    if (decide (c ≤ (90 : Int))) = true then
     some ((true, ()), ())
    else
     some ((decide (c = (95 : Int)), ()), ())
   else
    some ((decide (c = (95 : Int)), ()), ()) := by kernel_rfl

def Tryd.m25.p : Pln := ⟨[], 0, ⟨[.fd (.int .u8)], []⟩, ⟨[.fd .bool], []⟩, true, [], []⟩
noncomputable def Tryd.m25.E : Env En.Dop.D2 := envOf Tryd.prog 25 Tryd.tb [] Tryd.m25.p
theorem Tryd.m25.ok : plnOk En.Dop.D2 Tryd.prog 25 Tryd.m25.p = true := by kernel_rfl
noncomputable def Tryd.m25.c : Ctr En.Dop.D2 := ⟨25, Tryd.m25.p.bn, Tryd.m25.p.sp, Tryd.m25.p.rs, Tryd.m25.p.flat, .opt (Tryd.m25.E.run 3000 Tryd.m25.p.sp)⟩
theorem Tryd.m25.holds : Tryd.m25.c.Holds Tryd.prog := fun_ctr 3000 Tryd.tbOk hct_nil Tryd.m25.ok
noncomputable def Tryd.m25 (c : Int) : Option (Spec.D En.Dop.D2 ⟨[.fd .bool], []⟩) := Tryd.m25.E.run 3000 Tryd.m25.p.sp ((c, ()), ())
theorem Tryd.m25_eq (c : Int) : Tryd.m25 c =
  if (decide ((48 : Int) ≤ c)) = true then
   some ((decide (c ≤ (57 : Int)), ()), ())
  else
   some ((false, ()), ()) := by kernel_rfl

def Tryd.m31.p : Pln := ⟨[], 0, ⟨[], []⟩, ⟨[.own 1 9], []⟩, true, [], []⟩
noncomputable def Tryd.m31.E : Env En.Dop.D2 := envOf Tryd.prog 31 Tryd.tb [] Tryd.m31.p
theorem Tryd.m31.ok : plnOk En.Dop.D2 Tryd.prog 31 Tryd.m31.p = true := by kernel_rfl
noncomputable def Tryd.m31.c : Ctr En.Dop.D2 := ⟨31, Tryd.m31.p.bn, Tryd.m31.p.sp, Tryd.m31.p.rs, Tryd.m31.p.flat, .opt (Tryd.m31.E.run 3000 Tryd.m31.p.sp)⟩
theorem Tryd.m31.holds : Tryd.m31.c.Holds Tryd.prog := fun_ctr 3000 Tryd.tbOk hct_nil Tryd.m31.ok
noncomputable def Tryd.m31 : Option (Spec.D En.Dop.D2 ⟨[.own 1 9], []⟩) := Tryd.m31.E.run 3000 Tryd.m31.p.sp ((), ())
theorem Tryd.m31_eq : Tryd.m31 =
  some ((((98 : UInt8) :: (114 : UInt8) :: (101 : UInt8) :: (97 : UInt8) :: (107 : UInt8) :: @List.nil UInt8) :: ((99 : UInt8) :: (97 : UInt8) :: (115 : UInt8) :: (101 : UInt8) :: @List.nil UInt8) :: ((99 : UInt8) :: (104 : UInt8) :: (97 : UInt8) :: (114 : UInt8) :: @List.nil UInt8) :: ((99 : UInt8) :: (111 : UInt8) :: (110 : UInt8) :: (116 : UInt8) :: (105 : UInt8) :: (110 : UInt8) :: (117 : UInt8) :: (101 : UInt8) :: @List.nil UInt8) :: ((100 : UInt8) :: (101 : UInt8) :: (102 : UInt8) :: (97 : UInt8) :: (117 : UInt8) :: (108 : UInt8) :: (116 : UInt8) :: @List.nil UInt8) :: ((100 : UInt8) :: (111 : UInt8) :: @List.nil UInt8) :: ((101 : UInt8) :: (108 : UInt8) :: (115 : UInt8) :: (101 : UInt8) :: @List.nil UInt8) :: ((102 : UInt8) :: (111 : UInt8) :: (114 : UInt8) :: @List.nil UInt8) :: ((103 : UInt8) :: (101 : UInt8) :: (116 : UInt8) :: (99 : UInt8) :: @List.nil UInt8) :: ((103 : UInt8) :: (111 : UInt8) :: (116 : UInt8) :: (111 : UInt8) :: @List.nil UInt8) :: ((105 : UInt8) :: (102 : UInt8) :: @List.nil UInt8) :: ((105 : UInt8) :: (110 : UInt8) :: (116 : UInt8) :: @List.nil UInt8) :: ((112 : UInt8) :: (117 : UInt8) :: (116 : UInt8) :: (99 : UInt8) :: @List.nil UInt8) :: ((114 : UInt8) :: (101 : UInt8) :: (116 : UInt8) :: (117 : UInt8) :: (114 : UInt8) :: (110 : UInt8) :: @List.nil UInt8) :: ((115 : UInt8) :: (105 : UInt8) :: (122 : UInt8) :: (101 : UInt8) :: (111 : UInt8) :: (102 : UInt8) :: @List.nil UInt8) :: ((115 : UInt8) :: (116 : UInt8) :: (114 : UInt8) :: (117 : UInt8) :: (99 : UInt8) :: (116 : UInt8) :: @List.nil UInt8) :: ((115 : UInt8) :: (119 : UInt8) :: (105 : UInt8) :: (116 : UInt8) :: (99 : UInt8) :: (104 : UInt8) :: @List.nil UInt8) :: ((117 : UInt8) :: (110 : UInt8) :: (115 : UInt8) :: (105 : UInt8) :: (103 : UInt8) :: (110 : UInt8) :: (101 : UInt8) :: (100 : UInt8) :: @List.nil UInt8) :: ((118 : UInt8) :: (111 : UInt8) :: (105 : UInt8) :: (100 : UInt8) :: @List.nil UInt8) :: ((119 : UInt8) :: (104 : UInt8) :: (105 : UInt8) :: (108 : UInt8) :: (101 : UInt8) :: @List.nil UInt8) :: @List.nil (List UInt8), ()), ()) := by kernel_rfl

def Tryd.m17.p : Pln := ⟨[(3, ⟨[[0, 0, 0, 0, 0, 1, 0, 1, 1], [0, 1, 0, 0, 0, 1, 0, 1, 1], [0, 1, 0, 0, 1, 0, 1, 1], [2, 0, 0, 1, 0, 1, 1], [1, 0], [0, 1, 1, 1]], [0, 3, 4], 0, ⟨[.fd .str, .own 1 9, .fd (.int .i64)], []⟩⟩)], 0, ⟨[.fd .str], []⟩, ⟨[.fd .bool], []⟩, true, [], []⟩
noncomputable def Tryd.m17.E : Env En.Dop.D2 := envOf Tryd.prog 17 Tryd.tb [Tryd.m31.c] Tryd.m17.p
theorem Tryd.m17.ok : plnOk En.Dop.D2 Tryd.prog 17 Tryd.m17.p = true := by kernel_rfl
noncomputable def Tryd.m17.c : Ctr En.Dop.D2 := ⟨17, Tryd.m17.p.bn, Tryd.m17.p.sp, Tryd.m17.p.rs, Tryd.m17.p.flat, .opt (Tryd.m17.E.run 3000 Tryd.m17.p.sp)⟩
theorem Tryd.m17.holds : Tryd.m17.c.Holds Tryd.prog := fun_ctr 3000 Tryd.tbOk (hct_cons Tryd.m31.holds hct_nil) Tryd.m17.ok
noncomputable def Tryd.m17 (w : List UInt8) : Option (Spec.D En.Dop.D2 ⟨[.fd .bool], []⟩) := Tryd.m17.E.run 3000 Tryd.m17.p.sp ((w, ()), ())
noncomputable def Tryd.m17_3 (w : List UInt8) (l : List (List UInt8)) (i : Int) : Option (Spec.D En.Dop.D2 ⟨[.fd .bool], []⟩) := Tryd.m17.E.cut 3000 3 ((w, l, i, ()), ())
theorem Tryd.m17_eq (w : List UInt8) : Tryd.m17 w =
  (Tryd.m31).bind fun y2 =>
   Tryd.m17_3 (w) (y2.fst.fst) ((0 : Int)) := by kernel_rfl
theorem Tryd.m17_3_eq (w : List UInt8) (l : List (List UInt8)) (i : Int) : Tryd.m17_3 w l i =
  if (decide (i < I l.length)) = true then
   if (decide ((0 : Int) ≤ i ∧ i < I l.length)) = true then
   if (decide (i.toNat < l.length)) = true then
   if (decide (@List.getD (List UInt8) l i.toNat (@List.nil UInt8) = w)) = true then
    some ((true, ()), ())
   else
    if (inR (i + (1 : Int))) = true then
    Tryd.m17_3 (w) (l) (i + (1 : Int))
    else none
   else none
   else none
  else
   some ((false, ()), ()) := Env.cut_eq' (E := Tryd.m17.E) (f0 := 3000) (c := 3) (q := ⟨[[0, 0, 0, 0, 0, 1, 0, 1, 1], [0, 1, 0, 0, 0, 1, 0, 1, 1], [0, 1, 0, 0, 1, 0, 1, 1], [2, 0, 0, 1, 0, 1, 1], [1, 0], [0, 1, 1, 1]], [0, 3, 4], 0, ⟨[.fd .str, .own 1 9, .fd (.int .i64)], []⟩⟩) (by kernel_rfl) ((w, l, i, ()), ()) (by kernel_rfl) (by kernel_rfl)

def Tryd.m44.p : Pln := ⟨[], 0, ⟨[.fd (.int .u8)], []⟩, ⟨[.fd (.int .i64)], []⟩, true, [], []⟩
noncomputable def Tryd.m44.E : Env En.Dop.D2 := envOf Tryd.prog 44 Tryd.tb [Tryd.m25.c] Tryd.m44.p
theorem Tryd.m44.ok : plnOk En.Dop.D2 Tryd.prog 44 Tryd.m44.p = true := by kernel_rfl
noncomputable def Tryd.m44.c : Ctr En.Dop.D2 := ⟨44, Tryd.m44.p.bn, Tryd.m44.p.sp, Tryd.m44.p.rs, Tryd.m44.p.flat, .opt (Tryd.m44.E.run 3000 Tryd.m44.p.sp)⟩
theorem Tryd.m44.holds : Tryd.m44.c.Holds Tryd.prog := fun_ctr 3000 Tryd.tbOk (hct_cons Tryd.m25.holds hct_nil) Tryd.m44.ok
noncomputable def Tryd.m44 (c : Int) : Option (Spec.D En.Dop.D2 ⟨[.fd (.int .i64)], []⟩) := Tryd.m44.E.run 3000 Tryd.m44.p.sp ((c, ()), ())
theorem Tryd.m44_eq (c : Int) : Tryd.m44 c =
  (Tryd.m25 (c)).bind fun y2 =>
   if (y2.fst.fst) = true then
    if (inR c) = true then
    if (inR (c - (48 : Int))) = true then
    some ((c - (48 : Int), ()), ())
    else none
    else none
   else
    if (decide ((97 : Int) ≤ c)) = true then
     if (decide (c ≤ (102 : Int))) = true then
      if (inR c) = true then
      if (inR (c - (97 : Int))) = true then
      if (inR (c - (97 : Int) + (10 : Int))) = true then
      some ((c - (97 : Int) + (10 : Int), ()), ())
      else none
      else none
      else none
     else
      if (decide ((65 : Int) ≤ c)) = true then
       if (decide (c ≤ (70 : Int))) = true then
        if (inR c) = true then
        if (inR (c - (65 : Int))) = true then
        if (inR (c - (65 : Int) + (10 : Int))) = true then
        some ((c - (65 : Int) + (10 : Int), ()), ())
        else none
        else none
        else none
       else
        some (((99 : Int), ()), ())
      else
       some (((99 : Int), ()), ())
    else
     if (decide ((65 : Int) ≤ c)) = true then
      if (decide (c ≤ (70 : Int))) = true then
       if (inR c) = true then
       if (inR (c - (65 : Int))) = true then
       if (inR (c - (65 : Int) + (10 : Int))) = true then
       some ((c - (65 : Int) + (10 : Int), ()), ())
       else none
       else none
       else none
      else
       some (((99 : Int), ()), ())
     else
      some (((99 : Int), ()), ()) := by kernel_rfl

def Tryd.m26.p : Pln := ⟨[(3, ⟨[[0, 0, 1, 1], [0, 1, 1, 1]], [0], 0, ⟨[.fd .str], []⟩⟩), (9, ⟨[[0, 0, 0, 0, 0, 1, 0, 1, 1, 1, 1, 1], [0, 1, 0, 0, 0, 1, 0, 1, 1, 1, 1, 1], [0, 1, 0, 0, 1, 0, 1, 1, 1, 1, 1], [2, 0, 0, 1, 0, 1, 1, 1, 1, 1], [1, 0], [0, 1, 1, 1, 1, 1, 1]], [0, 4, 5, 6], 0, ⟨[.fd .str, .fd (.int .i64), .fd (.int .i64), .fd (.int .i64)], []⟩⟩)], 0, ⟨[.fd .str], []⟩, ⟨[.fd (.int .i64), .fd .bool], []⟩, true, [], []⟩
noncomputable def Tryd.m26.E : Env En.Dop.D2 := envOf Tryd.prog 26 Tryd.tb [Tryd.m28.c, Tryd.m44.c] Tryd.m26.p
theorem Tryd.m26.ok : plnOk En.Dop.D2 Tryd.prog 26 Tryd.m26.p = true := by kernel_rfl
noncomputable def Tryd.m26.c : Ctr En.Dop.D2 := ⟨26, Tryd.m26.p.bn, Tryd.m26.p.sp, Tryd.m26.p.rs, Tryd.m26.p.flat, .opt (Tryd.m26.E.run 3000 Tryd.m26.p.sp)⟩
theorem Tryd.m26.holds : Tryd.m26.c.Holds Tryd.prog := fun_ctr 3000 Tryd.tbOk (hct_cons Tryd.m28.holds (hct_cons Tryd.m44.holds hct_nil)) Tryd.m26.ok
noncomputable def Tryd.m26 (o : List UInt8) : Option (Spec.D En.Dop.D2 ⟨[.fd (.int .i64), .fd .bool], []⟩) := Tryd.m26.E.run 3000 Tryd.m26.p.sp ((o, ()), ())
noncomputable def Tryd.m26_3 (o : List UInt8) : Option (Spec.D En.Dop.D2 ⟨[.fd (.int .i64), .fd .bool], []⟩) := Tryd.m26.E.cut 3000 3 ((o, ()), ())
noncomputable def Tryd.m26_9 (o : List UInt8) (t4 : Int) (t5 : Int) (t6 : Int) : Option (Spec.D En.Dop.D2 ⟨[.fd (.int .i64), .fd .bool], []⟩) := Tryd.m26.E.cut 3000 9 ((o, t4, t5, t6, ()), ())
theorem Tryd.m26_eq (o : List UInt8) : Tryd.m26 o =
  if (decide ((0 : Int) < I o.length)) = true then
   if (inR (I o.length - (1 : Int))) = true then
   if (decide ((0 : Int) ≤ I o.length - (1 : Int) ∧ I o.length - (1 : Int) < I o.length)) = true then
   if (decide (strAt o (I o.length - (1 : Int)) = (117 : Int))) = true then
    if (inR (I o.length - (1 : Int))) = true then
    if (decide ((0 : Int) ≤ (0 : Int) ∧ (0 : Int) ≤ I o.length - (1 : Int) ∧ I o.length - (1 : Int) ≤ I o.length)) = true then
    Tryd.m26_3 (List.drop (Int.toNat (0 : Int)) (List.take (I o.length - (1 : Int)).toNat o))
    else none
    else none
   else
    if (inR (I o.length - (1 : Int))) = true then
    if (decide ((0 : Int) ≤ I o.length - (1 : Int) ∧ I o.length - (1 : Int) < I o.length)) = true then
    if (decide (strAt o (I o.length - (1 : Int)) = (85 : Int))) = true then
     if (inR (I o.length - (1 : Int))) = true then
     if (decide ((0 : Int) ≤ (0 : Int) ∧ (0 : Int) ≤ I o.length - (1 : Int) ∧ I o.length - (1 : Int) ≤ I o.length)) = true then
     Tryd.m26_3 (List.drop (Int.toNat (0 : Int)) (List.take (I o.length - (1 : Int)).toNat o))
     else none
     else none
    else
     Tryd.m26_3 (o)
    else none
    else none
   else none
   else none
  else
   Tryd.m26_3 (o) := by kernel_rfl
theorem Tryd.m26_3_eq (o : List UInt8) : Tryd.m26_3 o =
  (Tryd.m28 (o) ((0 : Int)) ((48 : UInt8) :: (120 : UInt8) :: @List.nil UInt8)).bind fun y2 =>
   if (y2.fst.fst) = true then
    if (decide ((0 : Int) ≤ (2 : Int) ∧ (2 : Int) ≤ I o.length ∧ I o.length ≤ I o.length)) = true then
    Tryd.m26_9 (List.drop (Int.toNat (2 : Int)) (List.take (I o.length).toNat o)) ((16 : Int)) ((0 : Int)) ((0 : Int))
    else none
   else
    (Tryd.m28 (o) ((0 : Int)) ((48 : UInt8) :: (88 : UInt8) :: @List.nil UInt8)).bind fun y4 =>
     if (y4.fst.fst) = true then
      if (decide ((0 : Int) ≤ (2 : Int) ∧ (2 : Int) ≤ I o.length ∧ I o.length ≤ I o.length)) = true then
      Tryd.m26_9 (List.drop (Int.toNat (2 : Int)) (List.take (I o.length).toNat o)) ((16 : Int)) ((0 : Int)) ((0 : Int))
      else none
     else
      Tryd.m26_9 (o) ((10 : Int)) ((0 : Int)) ((0 : Int)) := Env.cut_eq' (E := Tryd.m26.E) (f0 := 3000) (c := 3) (q := ⟨[[0, 0, 1, 1], [0, 1, 1, 1]], [0], 0, ⟨[.fd .str], []⟩⟩) (by kernel_rfl) ((o, ()), ()) (by kernel_rfl) (by kernel_rfl)
theorem Tryd.m26_9_eq (o : List UInt8) (t4 : Int) (t5 : Int) (t6 : Int) : Tryd.m26_9 o t4 t5 t6 =
  if (decide (t6 < I o.length)) = true then
   if (decide ((0 : Int) ≤ t6 ∧ t6 < I o.length)) = true then
   (Tryd.m44 (strAt o t6)).bind fun y3 =>
    if (decide (t4 ≤ y3.fst.fst)) = true then
     some (((0 : Int), (false, ())), ())
    else
     if (inR (t5 * t4)) = true then
     if (decide ((0 : Int) ≤ t6 ∧ t6 < I o.length)) = true then
     (Tryd.m44 (strAt o t6)).bind fun y5 =>
      if (inR (t5 * t4 + y5.fst.fst)) = true then
      if (decide ((4294967295 : Int) < t5 * t4 + y5.fst.fst)) = true then
       some (((0 : Int), (false, ())), ())
      else
       if (inR (t6 + (1 : Int))) = true then
       Tryd.m26_9 (o) (t4) (t5 * t4 + y5.fst.fst) (t6 + (1 : Int))
       else none
      else none
     else none
     else none
   else none
  else
   some ((t5, (decide ((0 : Int) < I o.length), ())), ()) := Env.cut_eq' (E := Tryd.m26.E) (f0 := 3000) (c := 9) (q := ⟨[[0, 0, 0, 0, 0, 1, 0, 1, 1, 1, 1, 1], [0, 1, 0, 0, 0, 1, 0, 1, 1, 1, 1, 1], [0, 1, 0, 0, 1, 0, 1, 1, 1, 1, 1], [2, 0, 0, 1, 0, 1, 1, 1, 1, 1], [1, 0], [0, 1, 1, 1, 1, 1, 1]], [0, 4, 5, 6], 0, ⟨[.fd .str, .fd (.int .i64), .fd (.int .i64), .fd (.int .i64)], []⟩⟩) (by kernel_rfl) ((o, t4, t5, t6, ()), ()) (by kernel_rfl) (by kernel_rfl)

def Tryd.m27.p : Pln := ⟨[(13, ⟨[[0, 0, 1, 1, 1], [0, 1, 1, 1, 1]], [], 0, ⟨[], []⟩⟩)], 0, ⟨[.fd .str, .fd (.int .i64)], []⟩, ⟨[.fd (.int .i64), .fd (.int .i64)], []⟩, true, [], []⟩
noncomputable def Tryd.m27.E : Env En.Dop.D2 := envOf Tryd.prog 27 Tryd.tb [] Tryd.m27.p
theorem Tryd.m27.ok : plnOk En.Dop.D2 Tryd.prog 27 Tryd.m27.p = true := by kernel_rfl
noncomputable def Tryd.m27.c : Ctr En.Dop.D2 := ⟨27, Tryd.m27.p.bn, Tryd.m27.p.sp, Tryd.m27.p.rs, Tryd.m27.p.flat, .opt (Tryd.m27.E.run 3000 Tryd.m27.p.sp)⟩
theorem Tryd.m27.holds : Tryd.m27.c.Holds Tryd.prog := fun_ctr 3000 Tryd.tbOk hct_nil Tryd.m27.ok
noncomputable def Tryd.m27 (o : List UInt8) (t1 : Int) : Option (Spec.D En.Dop.D2 ⟨[.fd (.int .i64), .fd (.int .i64)], []⟩) := Tryd.m27.E.run 3000 Tryd.m27.p.sp ((o, t1, ()), ())
noncomputable def Tryd.m27_13 : Option (Spec.D En.Dop.D2 ⟨[.fd (.int .i64), .fd (.int .i64)], []⟩) := Tryd.m27.E.cut 3000 13 ((), ())
theorem Tryd.m27_eq (o : List UInt8) (t1 : Int) : Tryd.m27 o t1 =
  if (inR (t1 + (2 : Int))) = true then
  if (decide (t1 + (2 : Int) < I o.length)) = true then
   if (inR (t1 + (2 : Int))) = true then
   if (decide ((0 : Int) ≤ t1 + (2 : Int) ∧ t1 + (2 : Int) < I o.length)) = true then
   if (decide (strAt o (t1 + (2 : Int)) = (39 : Int))) = true then
    if (inR (t1 + (1 : Int))) = true then
    if (decide ((0 : Int) ≤ t1 + (1 : Int) ∧ t1 + (1 : Int) < I o.length)) = true then
    if (!decide (strAt o (t1 + (1 : Int)) = (39 : Int))) = true then
     if (inR (t1 + (1 : Int))) = true then
     if (decide ((0 : Int) ≤ t1 + (1 : Int) ∧ t1 + (1 : Int) < I o.length)) = true then
     if (!decide (strAt o (t1 + (1 : Int)) = (92 : Int))) = true then
      if (inR (t1 + (1 : Int))) = true then
      if (decide ((0 : Int) ≤ t1 + (1 : Int) ∧ t1 + (1 : Int) < I o.length)) = true then
      if (!decide (strAt o (t1 + (1 : Int)) = (10 : Int))) = true then
       if (inR (t1 + (1 : Int))) = true then
       if (decide ((0 : Int) ≤ t1 + (1 : Int) ∧ t1 + (1 : Int) < I o.length)) = true then
       if (inR (strAt o (t1 + (1 : Int)))) = true then
       some ((strAt o (t1 + (1 : Int)), ((3 : Int), ())), ())
       else none
       else none
       else none
      else
       if (inR (t1 + (3 : Int))) = true then
       if (decide (t1 + (3 : Int) < I o.length)) = true then
        if (inR (t1 + (3 : Int))) = true then
        if (decide ((0 : Int) ≤ t1 + (3 : Int) ∧ t1 + (3 : Int) < I o.length)) = true then
        if (decide (strAt o (t1 + (3 : Int)) = (39 : Int))) = true then
         if (inR (t1 + (1 : Int))) = true then
         if (decide ((0 : Int) ≤ t1 + (1 : Int) ∧ t1 + (1 : Int) < I o.length)) = true then
         if (decide (strAt o (t1 + (1 : Int)) = (92 : Int))) = true then
          if (inR (t1 + (2 : Int))) = true then
          if (decide ((0 : Int) ≤ t1 + (2 : Int) ∧ t1 + (2 : Int) < I o.length)) = true then
          if (decide (strAt o (t1 + (2 : Int)) = (110 : Int))) = true then
           some (((10 : Int), ((4 : Int), ())), ())
          else
           if (decide (strAt o (t1 + (2 : Int)) = (116 : Int))) = true then
            some (((9 : Int), ((4 : Int), ())), ())
           else
            if (decide (strAt o (t1 + (2 : Int)) = (48 : Int))) = true then
             some (((0 : Int), ((4 : Int), ())), ())
            else
             if (decide (strAt o (t1 + (2 : Int)) = (92 : Int))) = true then
              if (inR (strAt o (t1 + (2 : Int)))) = true then
              some ((strAt o (t1 + (2 : Int)), ((4 : Int), ())), ())
              else none
             else
              if (decide (strAt o (t1 + (2 : Int)) = (39 : Int))) = true then
               if (inR (strAt o (t1 + (2 : Int)))) = true then
               some ((strAt o (t1 + (2 : Int)), ((4 : Int), ())), ())
               else none
              else
               Tryd.m27_13
          else none
          else none
         else
          Tryd.m27_13
         else none
         else none
        else
         Tryd.m27_13
        else none
        else none
       else
        Tryd.m27_13
       else none
      else none
      else none
     else
      if (inR (t1 + (3 : Int))) = true then
      if (decide (t1 + (3 : Int) < I o.length)) = true then
       if (inR (t1 + (3 : Int))) = true then
       if (decide ((0 : Int) ≤ t1 + (3 : Int) ∧ t1 + (3 : Int) < I o.length)) = true then
       if (decide (strAt o (t1 + (3 : Int)) = (39 : Int))) = true then
        if (inR (t1 + (1 : Int))) = true then
        if (decide ((0 : Int) ≤ t1 + (1 : Int) ∧ t1 + (1 : Int) < I o.length)) = true then
        if (decide (strAt o (t1 + (1 : Int)) = (92 : Int))) = true then
         if (inR (t1 + (2 : Int))) = true then
         if (decide ((0 : Int) ≤ t1 + (2 : Int) ∧ t1 + (2 : Int) < I o.length)) = true then
         if (decide (strAt o (t1 + (2 : Int)) = (110 : Int))) = true then
          some (((10 : Int), ((4 : Int), ())), ())
         else
          if (decide (strAt o (t1 + (2 : Int)) = (116 : Int))) = true then
           some (((9 : Int), ((4 : Int), ())), ())
          else
           if (decide (strAt o (t1 + (2 : Int)) = (48 : Int))) = true then
            some (((0 : Int), ((4 : Int), ())), ())
           else
            if (decide (strAt o (t1 + (2 : Int)) = (92 : Int))) = true then
             if (inR (strAt o (t1 + (2 : Int)))) = true then
             some ((strAt o (t1 + (2 : Int)), ((4 : Int), ())), ())
             else none
            else
             if (decide (strAt o (t1 + (2 : Int)) = (39 : Int))) = true then
              if (inR (strAt o (t1 + (2 : Int)))) = true then
              some ((strAt o (t1 + (2 : Int)), ((4 : Int), ())), ())
              else none
             else
              Tryd.m27_13
         else none
         else none
        else
         Tryd.m27_13
        else none
        else none
       else
        Tryd.m27_13
       else none
       else none
      else
       Tryd.m27_13
      else none
     else none
     else none
    else
     if (inR (t1 + (3 : Int))) = true then
     if (decide (t1 + (3 : Int) < I o.length)) = true then
      if (inR (t1 + (3 : Int))) = true then
      if (decide ((0 : Int) ≤ t1 + (3 : Int) ∧ t1 + (3 : Int) < I o.length)) = true then
      if (decide (strAt o (t1 + (3 : Int)) = (39 : Int))) = true then
       if (inR (t1 + (1 : Int))) = true then
       if (decide ((0 : Int) ≤ t1 + (1 : Int) ∧ t1 + (1 : Int) < I o.length)) = true then
       if (decide (strAt o (t1 + (1 : Int)) = (92 : Int))) = true then
        if (inR (t1 + (2 : Int))) = true then
        if (decide ((0 : Int) ≤ t1 + (2 : Int) ∧ t1 + (2 : Int) < I o.length)) = true then
        if (decide (strAt o (t1 + (2 : Int)) = (110 : Int))) = true then
         some (((10 : Int), ((4 : Int), ())), ())
        else
         if (decide (strAt o (t1 + (2 : Int)) = (116 : Int))) = true then
          some (((9 : Int), ((4 : Int), ())), ())
         else
          if (decide (strAt o (t1 + (2 : Int)) = (48 : Int))) = true then
           some (((0 : Int), ((4 : Int), ())), ())
          else
           if (decide (strAt o (t1 + (2 : Int)) = (92 : Int))) = true then
            if (inR (strAt o (t1 + (2 : Int)))) = true then
            some ((strAt o (t1 + (2 : Int)), ((4 : Int), ())), ())
            else none
           else
            if (decide (strAt o (t1 + (2 : Int)) = (39 : Int))) = true then
             if (inR (strAt o (t1 + (2 : Int)))) = true then
             some ((strAt o (t1 + (2 : Int)), ((4 : Int), ())), ())
             else none
            else
             Tryd.m27_13
        else none
        else none
       else
        Tryd.m27_13
       else none
       else none
      else
       Tryd.m27_13
      else none
      else none
     else
      Tryd.m27_13
     else none
    else none
    else none
   else
    if (inR (t1 + (3 : Int))) = true then
    if (decide (t1 + (3 : Int) < I o.length)) = true then
     if (inR (t1 + (3 : Int))) = true then
     if (decide ((0 : Int) ≤ t1 + (3 : Int) ∧ t1 + (3 : Int) < I o.length)) = true then
     if (decide (strAt o (t1 + (3 : Int)) = (39 : Int))) = true then
      if (inR (t1 + (1 : Int))) = true then
      if (decide ((0 : Int) ≤ t1 + (1 : Int) ∧ t1 + (1 : Int) < I o.length)) = true then
      if (decide (strAt o (t1 + (1 : Int)) = (92 : Int))) = true then
       if (inR (t1 + (2 : Int))) = true then
       if (decide ((0 : Int) ≤ t1 + (2 : Int) ∧ t1 + (2 : Int) < I o.length)) = true then
       if (decide (strAt o (t1 + (2 : Int)) = (110 : Int))) = true then
        some (((10 : Int), ((4 : Int), ())), ())
       else
        if (decide (strAt o (t1 + (2 : Int)) = (116 : Int))) = true then
         some (((9 : Int), ((4 : Int), ())), ())
        else
         if (decide (strAt o (t1 + (2 : Int)) = (48 : Int))) = true then
          some (((0 : Int), ((4 : Int), ())), ())
         else
          if (decide (strAt o (t1 + (2 : Int)) = (92 : Int))) = true then
           if (inR (strAt o (t1 + (2 : Int)))) = true then
           some ((strAt o (t1 + (2 : Int)), ((4 : Int), ())), ())
           else none
          else
           if (decide (strAt o (t1 + (2 : Int)) = (39 : Int))) = true then
            if (inR (strAt o (t1 + (2 : Int)))) = true then
            some ((strAt o (t1 + (2 : Int)), ((4 : Int), ())), ())
            else none
           else
            Tryd.m27_13
       else none
       else none
      else
       Tryd.m27_13
      else none
      else none
     else
      Tryd.m27_13
     else none
     else none
    else
     Tryd.m27_13
    else none
   else none
   else none
  else
   if (inR (t1 + (3 : Int))) = true then
   if (decide (t1 + (3 : Int) < I o.length)) = true then
    if (inR (t1 + (3 : Int))) = true then
    if (decide ((0 : Int) ≤ t1 + (3 : Int) ∧ t1 + (3 : Int) < I o.length)) = true then
    if (decide (strAt o (t1 + (3 : Int)) = (39 : Int))) = true then
     if (inR (t1 + (1 : Int))) = true then
     if (decide ((0 : Int) ≤ t1 + (1 : Int) ∧ t1 + (1 : Int) < I o.length)) = true then
     if (decide (strAt o (t1 + (1 : Int)) = (92 : Int))) = true then
      if (inR (t1 + (2 : Int))) = true then
      if (decide ((0 : Int) ≤ t1 + (2 : Int) ∧ t1 + (2 : Int) < I o.length)) = true then
      if (decide (strAt o (t1 + (2 : Int)) = (110 : Int))) = true then
       some (((10 : Int), ((4 : Int), ())), ())
      else
       if (decide (strAt o (t1 + (2 : Int)) = (116 : Int))) = true then
        some (((9 : Int), ((4 : Int), ())), ())
       else
        if (decide (strAt o (t1 + (2 : Int)) = (48 : Int))) = true then
         some (((0 : Int), ((4 : Int), ())), ())
        else
         if (decide (strAt o (t1 + (2 : Int)) = (92 : Int))) = true then
          if (inR (strAt o (t1 + (2 : Int)))) = true then
          some ((strAt o (t1 + (2 : Int)), ((4 : Int), ())), ())
          else none
         else
          if (decide (strAt o (t1 + (2 : Int)) = (39 : Int))) = true then
           if (inR (strAt o (t1 + (2 : Int)))) = true then
           some ((strAt o (t1 + (2 : Int)), ((4 : Int), ())), ())
           else none
          else
           Tryd.m27_13
      else none
      else none
     else
      Tryd.m27_13
     else none
     else none
    else
     Tryd.m27_13
    else none
    else none
   else
    Tryd.m27_13
   else none
  else none := by kernel_rfl
theorem Tryd.m27_13_eq : Tryd.m27_13 =
  some (((0 : Int), ((0 : Int), ())), ()) := Env.cut_eq' (E := Tryd.m27.E) (f0 := 3000) (c := 13) (q := ⟨[[0, 0, 1, 1, 1], [0, 1, 1, 1, 1]], [], 0, ⟨[], []⟩⟩) (by kernel_rfl) ((), ()) (by kernel_rfl) (by kernel_rfl)

def Tryd.m15.p : Pln := ⟨[], 0, ⟨[], []⟩, ⟨[.own 1 9], []⟩, true, [], []⟩
noncomputable def Tryd.m15.E : Env En.Dop.D2 := envOf Tryd.prog 15 Tryd.tb [] Tryd.m15.p
theorem Tryd.m15.ok : plnOk En.Dop.D2 Tryd.prog 15 Tryd.m15.p = true := by kernel_rfl
noncomputable def Tryd.m15.c : Ctr En.Dop.D2 := ⟨15, Tryd.m15.p.bn, Tryd.m15.p.sp, Tryd.m15.p.rs, Tryd.m15.p.flat, .opt (Tryd.m15.E.run 3000 Tryd.m15.p.sp)⟩
theorem Tryd.m15.holds : Tryd.m15.c.Holds Tryd.prog := fun_ctr 3000 Tryd.tbOk hct_nil Tryd.m15.ok
noncomputable def Tryd.m15 : Option (Spec.D En.Dop.D2 ⟨[.own 1 9], []⟩) := Tryd.m15.E.run 3000 Tryd.m15.p.sp ((), ())
theorem Tryd.m15_eq : Tryd.m15 =
  some ((((60 : UInt8) :: (60 : UInt8) :: (61 : UInt8) :: @List.nil UInt8) :: ((62 : UInt8) :: (62 : UInt8) :: (61 : UInt8) :: @List.nil UInt8) :: ((43 : UInt8) :: (43 : UInt8) :: @List.nil UInt8) :: ((45 : UInt8) :: (45 : UInt8) :: @List.nil UInt8) :: ((45 : UInt8) :: (62 : UInt8) :: @List.nil UInt8) :: ((43 : UInt8) :: (61 : UInt8) :: @List.nil UInt8) :: ((45 : UInt8) :: (61 : UInt8) :: @List.nil UInt8) :: ((42 : UInt8) :: (61 : UInt8) :: @List.nil UInt8) :: ((47 : UInt8) :: (61 : UInt8) :: @List.nil UInt8) :: ((37 : UInt8) :: (61 : UInt8) :: @List.nil UInt8) :: ((38 : UInt8) :: (61 : UInt8) :: @List.nil UInt8) :: ((124 : UInt8) :: (61 : UInt8) :: @List.nil UInt8) :: ((94 : UInt8) :: (61 : UInt8) :: @List.nil UInt8) :: ((60 : UInt8) :: (60 : UInt8) :: @List.nil UInt8) :: ((62 : UInt8) :: (62 : UInt8) :: @List.nil UInt8) :: ((60 : UInt8) :: (61 : UInt8) :: @List.nil UInt8) :: ((62 : UInt8) :: (61 : UInt8) :: @List.nil UInt8) :: ((61 : UInt8) :: (61 : UInt8) :: @List.nil UInt8) :: ((33 : UInt8) :: (61 : UInt8) :: @List.nil UInt8) :: ((38 : UInt8) :: (38 : UInt8) :: @List.nil UInt8) :: ((124 : UInt8) :: (124 : UInt8) :: @List.nil UInt8) :: ((43 : UInt8) :: @List.nil UInt8) :: ((45 : UInt8) :: @List.nil UInt8) :: ((42 : UInt8) :: @List.nil UInt8) :: ((47 : UInt8) :: @List.nil UInt8) :: ((37 : UInt8) :: @List.nil UInt8) :: ((38 : UInt8) :: @List.nil UInt8) :: ((124 : UInt8) :: @List.nil UInt8) :: ((94 : UInt8) :: @List.nil UInt8) :: ((126 : UInt8) :: @List.nil UInt8) :: ((33 : UInt8) :: @List.nil UInt8) :: ((60 : UInt8) :: @List.nil UInt8) :: ((62 : UInt8) :: @List.nil UInt8) :: ((61 : UInt8) :: @List.nil UInt8) :: ((63 : UInt8) :: @List.nil UInt8) :: ((58 : UInt8) :: @List.nil UInt8) :: ((59 : UInt8) :: @List.nil UInt8) :: ((44 : UInt8) :: @List.nil UInt8) :: ((46 : UInt8) :: @List.nil UInt8) :: ((40 : UInt8) :: @List.nil UInt8) :: ((41 : UInt8) :: @List.nil UInt8) :: ((91 : UInt8) :: @List.nil UInt8) :: ((93 : UInt8) :: @List.nil UInt8) :: ((123 : UInt8) :: @List.nil UInt8) :: ((125 : UInt8) :: @List.nil UInt8) :: @List.nil (List UInt8), ()), ()) := by kernel_rfl

def Tryd.m12.p : Pln := ⟨[(5, ⟨[[0, 0, 0, 0, 0, 1, 1, 1, 1], [0, 1, 0, 0, 0, 1, 1, 1, 1], [1, 1], [2, 0, 0, 1, 1, 1, 1], [1, 0]], [0, 5, 6], 0, ⟨[.fd .str, .own 4 32, .fd (.int .i64)], []⟩⟩), (13, ⟨[[0, 0, 0, 0, 0, 0, 1, 1, 1, 1, 1, 1, 0, 0, 0, 1, 1, 1, 1], [0, 1, 0, 0, 0, 0, 1, 1, 1, 1, 1, 1, 0, 0, 0, 1, 1, 1, 1], [0, 1, 0, 0, 0, 1, 1, 1, 1, 1, 1, 0, 0, 0, 1, 1, 1, 1], [2, 0, 0, 0, 1, 1, 1, 1, 1, 1, 0, 0, 0, 1, 1, 1, 1], [1, 2], [0, 1, 1, 1, 1, 1, 1, 1, 0, 0, 0, 1, 1, 1, 1], [1, 1], [2, 0, 0, 1, 1, 1, 1], [1, 0]], [0, 5, 6, 9, 10], 1, ⟨[.fd .str, .own 4 32, .fd (.int .i64), .al 0 0, .fd (.int .i64)], [⟨0, 32, [.st 4], false⟩]⟩⟩), (43, ⟨[[0, 0, 0, 1, 1, 1, 1, 1, 1, 1, 1, 0, 0, 0, 1, 1, 1, 1], [0, 1, 0, 1, 1, 1, 1, 1, 1, 1, 1, 0, 0, 0, 1, 1, 1, 1], [0, 1, 1, 1, 1, 1, 1, 1, 1, 1, 0, 0, 0, 1, 1, 1, 1], [1, 1], [2, 0, 0, 1, 1, 1, 1], [1, 0]], [0, 5, 6, 9], 1, ⟨[.fd .str, .own 4 32, .fd (.int .i64), .al 0 0], [⟨0, 32, [.st 4], false⟩]⟩⟩), (36, ⟨[[0, 0, 0, 0, 0, 1, 0, 1, 1, 1, 1, 1, 1, 1, 0, 1, 1, 1, 1, 1, 1, 1, 0, 0, 0, 1, 1, 1, 1], [0, 1, 0, 0, 0, 1, 0, 1, 1, 1, 1, 1, 1, 1, 0, 1, 1, 1, 1, 1, 1, 1, 0, 0, 0, 1, 1, 1, 1], [0, 1, 0, 0, 1, 0, 1, 1, 1, 1, 1, 1, 1, 0, 1, 1, 1, 1, 1, 1, 1, 0, 0, 0, 1, 1, 1, 1], [2, 0, 0, 1, 0, 1, 1, 1, 1, 1, 1, 1, 0, 1, 1, 1, 1, 1, 1, 1, 0, 0, 0, 1, 1, 1, 1], [1, 4], [0, 1, 1, 1, 1, 1, 1, 1, 1, 0, 1, 1, 1, 1, 1, 1, 1, 0, 0, 0, 1, 1, 1, 1], [0, 1, 1, 1, 1, 1, 1, 1, 1, 0, 0, 0, 1, 1, 1, 1], [1, 1], [2, 0, 0, 1, 1, 1, 1], [1, 0]], [0, 5, 6, 9, 15, 16], 1, ⟨[.fd .str, .own 4 32, .fd (.int .i64), .al 0 0, .own 1 9, .fd (.int .i64)], [⟨0, 32, [.st 4], false⟩]⟩⟩), (37, ⟨[[0, 1, 1, 0, 0, 1, 0, 1, 1, 1, 1, 1, 1, 1, 0, 1, 1, 1, 1, 1, 1, 1, 0, 0, 0, 1, 1, 1, 1], [2, 0, 0, 1, 0, 1, 1, 1, 1, 1, 1, 1, 0, 1, 1, 1, 1, 1, 1, 1, 0, 0, 0, 1, 1, 1, 1], [1, 4], [0, 1, 1, 1, 1, 1, 1, 1, 1, 0, 1, 1, 1, 1, 1, 1, 1, 0, 0, 0, 1, 1, 1, 1], [0, 1, 1, 1, 1, 1, 1, 1, 1, 0, 0, 0, 1, 1, 1, 1], [1, 1], [2, 0, 0, 1, 1, 1, 1], [1, 0]], [0, 5, 6, 9, 15, 16], 1, ⟨[.fd .str, .own 4 32, .fd (.int .i64), .al 0 0, .own 1 9, .fd (.int .i64)], [⟨0, 32, [.st 4], false⟩]⟩⟩)], 0, ⟨[.fd .str], []⟩, ⟨[.own 4 32, .fd (.int .i64), .fd (.int .i64)], []⟩, true, [(38, ⟨[(0, true), (1, true), (2, true), (3, true), (4, false), (5, false), (6, false), (7, true), (8, true), (9, true), (10, false), (11, false), (12, false), (13, true), (14, false), (15, false), (16, true), (17, true)], [], [0, 0, 0, 0, 12, 28, 63, 127, 255, 255, 1023, 2047, 4095, 255, 8447, 24831, 65535, 131071], false⟩)], []⟩
noncomputable def Tryd.m12.E : Env En.Dop.D2 := envOf Tryd.prog 12 Tryd.tb [Tryd.m23.c, Tryd.m24.c, Tryd.m25.c, Tryd.m17.c, Tryd.m26.c, Tryd.m27.c, Tryd.m15.c, Tryd.m28.c] Tryd.m12.p
theorem Tryd.m12.ok : plnOk En.Dop.D2 Tryd.prog 12 Tryd.m12.p = true := by kernel_rfl
noncomputable def Tryd.m12.c : Ctr En.Dop.D2 := ⟨12, Tryd.m12.p.bn, Tryd.m12.p.sp, Tryd.m12.p.rs, Tryd.m12.p.flat, .opt (Tryd.m12.E.run 3000 Tryd.m12.p.sp)⟩
theorem Tryd.m12.holds : Tryd.m12.c.Holds Tryd.prog := fun_ctr 3000 Tryd.tbOk (hct_cons Tryd.m23.holds (hct_cons Tryd.m24.holds (hct_cons Tryd.m25.holds (hct_cons Tryd.m17.holds (hct_cons Tryd.m26.holds (hct_cons Tryd.m27.holds (hct_cons Tryd.m15.holds (hct_cons Tryd.m28.holds hct_nil)))))))) Tryd.m12.ok
noncomputable def Tryd.m12 (o : List UInt8) : Option (Spec.D En.Dop.D2 ⟨[.own 4 32, .fd (.int .i64), .fd (.int .i64)], []⟩) := Tryd.m12.E.run 3000 Tryd.m12.p.sp ((o, ()), ())
noncomputable def Tryd.m12_5 (o : List UInt8) (t5 : List (En.Dop.Tok)) (t6 : Int) : Option (Spec.D En.Dop.D2 ⟨[.own 4 32, .fd (.int .i64), .fd (.int .i64)], []⟩) := Tryd.m12.E.cut 3000 5 ((o, t5, t6, ()), ())
noncomputable def Tryd.m12_13 (o : List UInt8) (t5 : List (En.Dop.Tok)) (t6 : Int) (t10 : Int) (b0 : En.Dop.Tok) : Option (Spec.D En.Dop.D2 ⟨[.own 4 32, .fd (.int .i64), .fd (.int .i64)], []⟩) := Tryd.m12.E.cut 3000 13 ((o, t5, t6, (), t10, ()), ((b0, ()), ()))
noncomputable def Tryd.m12_43 (o : List UInt8) (t5 : List (En.Dop.Tok)) (t6 : Int) (b0 : En.Dop.Tok) : Option (Spec.D En.Dop.D2 ⟨[.own 4 32, .fd (.int .i64), .fd (.int .i64)], []⟩) := Tryd.m12.E.cut 3000 43 ((o, t5, t6, (), ()), ((b0, ()), ()))
noncomputable def Tryd.m12_36 (o : List UInt8) (t5 : List (En.Dop.Tok)) (t6 : Int) (t15 : List (List UInt8)) (t16 : Int) (b0 : En.Dop.Tok) : Option (Spec.D En.Dop.D2 ⟨[.own 4 32, .fd (.int .i64), .fd (.int .i64)], []⟩) := Tryd.m12.E.cut 3000 36 ((o, t5, t6, (), t15, t16, ()), ((b0, ()), ()))
noncomputable def Tryd.m12_37 (o : List UInt8) (t5 : List (En.Dop.Tok)) (t6 : Int) (t15 : List (List UInt8)) (t16 : Int) (b0 : En.Dop.Tok) : Option (Spec.D En.Dop.D2 ⟨[.own 4 32, .fd (.int .i64), .fd (.int .i64)], []⟩) := Tryd.m12.E.cut 3000 37 ((o, t5, t6, (), t15, t16, ()), ((b0, ()), ()))
theorem Tryd.m12_eq (o : List UInt8) : Tryd.m12 o =
  if (decide ((32768 : Int) < I o.length)) = true then
   some ((@List.nil Dop.Tok, ((0 : Int), ((4 : Int), ()))), ())
  else
   Tryd.m12_5 (o) (@List.nil Dop.Tok) ((0 : Int)) := by kernel_rfl
theorem Tryd.m12_5_eq (o : List UInt8) (t5 : List (En.Dop.Tok)) (t6 : Int) : Tryd.m12_5 o t5 t6 =
  (Tryd.m23 (o) (t6)).bind fun y2 =>
   if (!y2.fst.snd.fst) = true then
    some ((@List.nil Dop.Tok, (y2.fst.fst, ((2 : Int), ()))), ())
   else
    if (decide (I o.length ≤ y2.fst.fst)) = true then
     if (andC none (room (40 : Nat) (t5.length + (Dop.Tok.mk (0 : Int) (@List.nil UInt8) (0 : Int) y2.fst.fst :: @List.nil Dop.Tok).length))) = true then
     some ((t5 ++ Dop.Tok.mk (0 : Int) (@List.nil UInt8) (0 : Int) y2.fst.fst :: @List.nil Dop.Tok, ((0 : Int), ((0 : Int), ()))), ())
     else none
    else
     Tryd.m12_13 (o) (t5) (y2.fst.fst) (y2.fst.fst) (Dop.Tok.mk (0 : Int) (@List.nil UInt8) (0 : Int) y2.fst.fst) := Env.cut_eq' (E := Tryd.m12.E) (f0 := 3000) (c := 5) (q := ⟨[[0, 0, 0, 0, 0, 1, 1, 1, 1], [0, 1, 0, 0, 0, 1, 1, 1, 1], [1, 1], [2, 0, 0, 1, 1, 1, 1], [1, 0]], [0, 5, 6], 0, ⟨[.fd .str, .own 4 32, .fd (.int .i64)], []⟩⟩) (by kernel_rfl) ((o, t5, t6, ()), ()) (by kernel_rfl) (by kernel_rfl)
theorem Tryd.m12_13_eq (o : List UInt8) (t5 : List (En.Dop.Tok)) (t6 : Int) (t10 : Int) (b0 : En.Dop.Tok) : Tryd.m12_13 o t5 t6 t10 b0 =
  if (decide (t10 < I o.length)) = true then
   if (decide ((0 : Int) ≤ t10 ∧ t10 < I o.length)) = true then
   (Tryd.m24 (strAt o t10)).bind fun y3 =>
    if (y3.fst.fst) = true then
     if (inR (t10 + (1 : Int))) = true then
     Tryd.m12_13 (o) (t5) (t6) (t10 + (1 : Int)) (b0)
     else none
    else
     if (decide ((0 : Int) ≤ t10 ∧ t10 < I o.length)) = true then
     (Tryd.m25 (strAt o t10)).bind fun y5 =>
      if (y5.fst.fst) = true then
       if (inR (t10 + (1 : Int))) = true then
       Tryd.m12_13 (o) (t5) (t6) (t10 + (1 : Int)) (b0)
       else none
      else
       if (decide ((0 : Int) ≤ t6 ∧ t6 < I o.length)) = true then
       (Tryd.m24 (strAt o t6)).bind fun y7 =>
        if (y7.fst.fst) = true then
         if (decide ((0 : Int) ≤ t6 ∧ t6 ≤ t10 ∧ t10 ≤ I o.length)) = true then
         (Tryd.m17 (List.drop t6.toNat (List.take t10.toNat o))).bind fun y9 =>
          if (y9.fst.fst) = true then
           Tryd.m12_43 (o) (t5) (t6) (Dop.Tok.mk (2 : Int) (List.drop t6.toNat (List.take t10.toNat o)) b0.n b0.at_)
          else
           Tryd.m12_43 (o) (t5) (t6) (Dop.Tok.mk (1 : Int) (List.drop t6.toNat (List.take t10.toNat o)) b0.n b0.at_)
         else none
        else
         if (decide ((0 : Int) ≤ t6 ∧ t6 < I o.length)) = true then
         (Tryd.m25 (strAt o t6)).bind fun y9 =>
          if (y9.fst.fst) = true then
           if (decide ((0 : Int) ≤ t6 ∧ t6 ≤ t10 ∧ t10 ≤ I o.length)) = true then
           (Tryd.m26 (List.drop t6.toNat (List.take t10.toNat o))).bind fun y11 =>
            if (!y11.fst.snd.fst) = true then
             some ((@List.nil Dop.Tok, (t6, ((3 : Int), ()))), ())
            else
             if (decide ((0 : Int) ≤ t6 ∧ t6 ≤ t10 ∧ t10 ≤ I o.length)) = true then
             Tryd.m12_43 (o) (t5) (t6) (Dop.Tok.mk (3 : Int) (List.drop t6.toNat (List.take t10.toNat o)) y11.fst.fst b0.at_)
             else none
           else none
          else
           if (decide ((0 : Int) ≤ t6 ∧ t6 < I o.length)) = true then
           if (decide (strAt o t6 = (39 : Int))) = true then
            (Tryd.m27 (o) (t6)).bind fun y12 =>
             if (decide (y12.fst.snd.fst = (0 : Int))) = true then
              some ((@List.nil Dop.Tok, (t6, ((2 : Int), ()))), ())
             else
              if (inR (t6 + y12.fst.snd.fst)) = true then
              if (decide ((0 : Int) ≤ t6 ∧ t6 ≤ t6 + y12.fst.snd.fst ∧ t6 + y12.fst.snd.fst ≤ I o.length)) = true then
              Tryd.m12_43 (o) (t5) (t6) (Dop.Tok.mk (3 : Int) (List.drop t6.toNat (List.take (t6 + y12.fst.snd.fst).toNat o)) y12.fst.fst b0.at_)
              else none
              else none
           else
            (Tryd.m15).bind fun y12 =>
             Tryd.m12_36 (o) (t5) (t6) (y12.fst.fst) ((0 : Int)) (b0)
           else none
         else none
       else none
     else none
   else none
  else
   if (decide ((0 : Int) ≤ t6 ∧ t6 < I o.length)) = true then
   (Tryd.m24 (strAt o t6)).bind fun y3 =>
    if (y3.fst.fst) = true then
     if (decide ((0 : Int) ≤ t6 ∧ t6 ≤ t10 ∧ t10 ≤ I o.length)) = true then
     (Tryd.m17 (List.drop t6.toNat (List.take t10.toNat o))).bind fun y5 =>
      if (y5.fst.fst) = true then
       Tryd.m12_43 (o) (t5) (t6) (Dop.Tok.mk (2 : Int) (List.drop t6.toNat (List.take t10.toNat o)) b0.n b0.at_)
      else
       Tryd.m12_43 (o) (t5) (t6) (Dop.Tok.mk (1 : Int) (List.drop t6.toNat (List.take t10.toNat o)) b0.n b0.at_)
     else none
    else
     if (decide ((0 : Int) ≤ t6 ∧ t6 < I o.length)) = true then
     (Tryd.m25 (strAt o t6)).bind fun y5 =>
      if (y5.fst.fst) = true then
       if (decide ((0 : Int) ≤ t6 ∧ t6 ≤ t10 ∧ t10 ≤ I o.length)) = true then
       (Tryd.m26 (List.drop t6.toNat (List.take t10.toNat o))).bind fun y7 =>
        if (!y7.fst.snd.fst) = true then
         some ((@List.nil Dop.Tok, (t6, ((3 : Int), ()))), ())
        else
         if (decide ((0 : Int) ≤ t6 ∧ t6 ≤ t10 ∧ t10 ≤ I o.length)) = true then
         Tryd.m12_43 (o) (t5) (t6) (Dop.Tok.mk (3 : Int) (List.drop t6.toNat (List.take t10.toNat o)) y7.fst.fst b0.at_)
         else none
       else none
      else
       if (decide ((0 : Int) ≤ t6 ∧ t6 < I o.length)) = true then
       if (decide (strAt o t6 = (39 : Int))) = true then
        (Tryd.m27 (o) (t6)).bind fun y8 =>
         if (decide (y8.fst.snd.fst = (0 : Int))) = true then
          some ((@List.nil Dop.Tok, (t6, ((2 : Int), ()))), ())
         else
          if (inR (t6 + y8.fst.snd.fst)) = true then
          if (decide ((0 : Int) ≤ t6 ∧ t6 ≤ t6 + y8.fst.snd.fst ∧ t6 + y8.fst.snd.fst ≤ I o.length)) = true then
          Tryd.m12_43 (o) (t5) (t6) (Dop.Tok.mk (3 : Int) (List.drop t6.toNat (List.take (t6 + y8.fst.snd.fst).toNat o)) y8.fst.fst b0.at_)
          else none
          else none
       else
        (Tryd.m15).bind fun y8 =>
         Tryd.m12_36 (o) (t5) (t6) (y8.fst.fst) ((0 : Int)) (b0)
       else none
     else none
   else none := Env.cut_eq' (E := Tryd.m12.E) (f0 := 3000) (c := 13) (q := ⟨[[0, 0, 0, 0, 0, 0, 1, 1, 1, 1, 1, 1, 0, 0, 0, 1, 1, 1, 1], [0, 1, 0, 0, 0, 0, 1, 1, 1, 1, 1, 1, 0, 0, 0, 1, 1, 1, 1], [0, 1, 0, 0, 0, 1, 1, 1, 1, 1, 1, 0, 0, 0, 1, 1, 1, 1], [2, 0, 0, 0, 1, 1, 1, 1, 1, 1, 0, 0, 0, 1, 1, 1, 1], [1, 2], [0, 1, 1, 1, 1, 1, 1, 1, 0, 0, 0, 1, 1, 1, 1], [1, 1], [2, 0, 0, 1, 1, 1, 1], [1, 0]], [0, 5, 6, 9, 10], 1, ⟨[.fd .str, .own 4 32, .fd (.int .i64), .al 0 0, .fd (.int .i64)], [⟨0, 32, [.st 4], false⟩]⟩⟩) (by kernel_rfl) ((o, t5, t6, (), t10, ()), ((b0, ()), ())) (by kernel_rfl) (by kernel_rfl)
theorem Tryd.m12_43_eq (o : List UInt8) (t5 : List (En.Dop.Tok)) (t6 : Int) (b0 : En.Dop.Tok) : Tryd.m12_43 o t5 t6 b0 =
  if (decide ((8192 : Int) ≤ I t5.length)) = true then
   some ((@List.nil Dop.Tok, (t6, ((4 : Int), ()))), ())
  else
   if (andC none (room (40 : Nat) (t5.length + (b0 :: @List.nil Dop.Tok).length))) = true then
   if (inR (t6 + I b0.text.length)) = true then
   Tryd.m12_5 (o) (t5 ++ b0 :: @List.nil Dop.Tok) (t6 + I b0.text.length)
   else none
   else none := Env.cut_eq' (E := Tryd.m12.E) (f0 := 3000) (c := 43) (q := ⟨[[0, 0, 0, 1, 1, 1, 1, 1, 1, 1, 1, 0, 0, 0, 1, 1, 1, 1], [0, 1, 0, 1, 1, 1, 1, 1, 1, 1, 1, 0, 0, 0, 1, 1, 1, 1], [0, 1, 1, 1, 1, 1, 1, 1, 1, 1, 0, 0, 0, 1, 1, 1, 1], [1, 1], [2, 0, 0, 1, 1, 1, 1], [1, 0]], [0, 5, 6, 9], 1, ⟨[.fd .str, .own 4 32, .fd (.int .i64), .al 0 0], [⟨0, 32, [.st 4], false⟩]⟩⟩) (by kernel_rfl) ((o, t5, t6, (), ()), ((b0, ()), ())) (by kernel_rfl) (by kernel_rfl)
theorem Tryd.m12_36_eq (o : List UInt8) (t5 : List (En.Dop.Tok)) (t6 : Int) (t15 : List (List UInt8)) (t16 : Int) (b0 : En.Dop.Tok) : Tryd.m12_36 o t5 t6 t15 t16 b0 =
  if (decide (t16 < I t15.length)) = true then
   if (decide ((0 : Int) ≤ t16 ∧ t16 < I t15.length)) = true then
   if (decide (t16.toNat < t15.length)) = true then
   (Tryd.m28 (o) (t6) (@List.getD (List UInt8) t15 t16.toNat (@List.nil UInt8))).bind fun y3 =>
    if (y3.fst.fst) = true then
     if (decide ((0 : Int) ≤ t16 ∧ t16 < I t15.length)) = true then
     if (decide (t16.toNat < t15.length)) = true then
     if (decide (I b0.text.length < I (@List.getD (List UInt8) t15 t16.toNat (@List.nil UInt8)).length)) = true then
      if (decide ((0 : Int) ≤ t16 ∧ t16 < I t15.length)) = true then
      if (decide (t16.toNat < t15.length)) = true then
      Tryd.m12_37 (o) (t5) (t6) (t15) (t16) (Dop.Tok.mk (4 : Int) (@List.getD (List UInt8) t15 t16.toNat (@List.nil UInt8)) b0.n b0.at_)
      else none
      else none
     else
      Tryd.m12_37 (o) (t5) (t6) (t15) (t16) (b0)
     else none
     else none
    else
     Tryd.m12_37 (o) (t5) (t6) (t15) (t16) (b0)
   else none
   else none
  else
   if (decide (b0.kind = (0 : Int))) = true then
    some ((@List.nil Dop.Tok, (t6, ((2 : Int), ()))), ())
   else
    Tryd.m12_43 (o) (t5) (t6) (b0) := Env.cut_eq' (E := Tryd.m12.E) (f0 := 3000) (c := 36) (q := ⟨[[0, 0, 0, 0, 0, 1, 0, 1, 1, 1, 1, 1, 1, 1, 0, 1, 1, 1, 1, 1, 1, 1, 0, 0, 0, 1, 1, 1, 1], [0, 1, 0, 0, 0, 1, 0, 1, 1, 1, 1, 1, 1, 1, 0, 1, 1, 1, 1, 1, 1, 1, 0, 0, 0, 1, 1, 1, 1], [0, 1, 0, 0, 1, 0, 1, 1, 1, 1, 1, 1, 1, 0, 1, 1, 1, 1, 1, 1, 1, 0, 0, 0, 1, 1, 1, 1], [2, 0, 0, 1, 0, 1, 1, 1, 1, 1, 1, 1, 0, 1, 1, 1, 1, 1, 1, 1, 0, 0, 0, 1, 1, 1, 1], [1, 4], [0, 1, 1, 1, 1, 1, 1, 1, 1, 0, 1, 1, 1, 1, 1, 1, 1, 0, 0, 0, 1, 1, 1, 1], [0, 1, 1, 1, 1, 1, 1, 1, 1, 0, 0, 0, 1, 1, 1, 1], [1, 1], [2, 0, 0, 1, 1, 1, 1], [1, 0]], [0, 5, 6, 9, 15, 16], 1, ⟨[.fd .str, .own 4 32, .fd (.int .i64), .al 0 0, .own 1 9, .fd (.int .i64)], [⟨0, 32, [.st 4], false⟩]⟩⟩) (by kernel_rfl) ((o, t5, t6, (), t15, t16, ()), ((b0, ()), ())) (by kernel_rfl) (by kernel_rfl)
theorem Tryd.m12_37_eq (o : List UInt8) (t5 : List (En.Dop.Tok)) (t6 : Int) (t15 : List (List UInt8)) (t16 : Int) (b0 : En.Dop.Tok) : Tryd.m12_37 o t5 t6 t15 t16 b0 =
  if (inR (t16 + (1 : Int))) = true then
  Tryd.m12_36 (o) (t5) (t6) (t15) (t16 + (1 : Int)) (b0)
  else none := Env.cut_eq' (E := Tryd.m12.E) (f0 := 3000) (c := 37) (q := ⟨[[0, 1, 1, 0, 0, 1, 0, 1, 1, 1, 1, 1, 1, 1, 0, 1, 1, 1, 1, 1, 1, 1, 0, 0, 0, 1, 1, 1, 1], [2, 0, 0, 1, 0, 1, 1, 1, 1, 1, 1, 1, 0, 1, 1, 1, 1, 1, 1, 1, 0, 0, 0, 1, 1, 1, 1], [1, 4], [0, 1, 1, 1, 1, 1, 1, 1, 1, 0, 1, 1, 1, 1, 1, 1, 1, 0, 0, 0, 1, 1, 1, 1], [0, 1, 1, 1, 1, 1, 1, 1, 1, 0, 0, 0, 1, 1, 1, 1], [1, 1], [2, 0, 0, 1, 1, 1, 1], [1, 0]], [0, 5, 6, 9, 15, 16], 1, ⟨[.fd .str, .own 4 32, .fd (.int .i64), .al 0 0, .own 1 9, .fd (.int .i64)], [⟨0, 32, [.st 4], false⟩]⟩⟩) (by kernel_rfl) ((o, t5, t6, (), t15, t16, ()), ((b0, ()), ())) (by kernel_rfl) (by kernel_rfl)

def Tryd.m13.p : Pln := ⟨[(4, ⟨[[0, 0, 0, 0, 1, 0, 1, 1], [0, 1, 0, 0, 1, 0, 1, 1], [2, 0, 0, 1, 0, 1, 1], [1, 0], [0, 1, 1, 1]], [0, 1, 12, 13], 0, ⟨[.fd (.sl 4), .fd (.sl 4), .fd (.int .i64), .fd (.int .i64)], []⟩⟩)], 0, ⟨[.fd (.sl 4), .fd (.sl 4)], []⟩, ⟨[.fd .bool], []⟩, true, [(6, ⟨[(0, true), (1, true), (2, false), (3, false), (4, true), (5, true), (6, false), (7, false), (8, true)], [], [0, 0, 3, 7, 0, 0, 48, 112, 255], false⟩)], []⟩
noncomputable def Tryd.m13.E : Env En.Dop.D2 := envOf Tryd.prog 13 Tryd.tb [] Tryd.m13.p
theorem Tryd.m13.ok : plnOk En.Dop.D2 Tryd.prog 13 Tryd.m13.p = true := by kernel_rfl
noncomputable def Tryd.m13.c : Ctr En.Dop.D2 := ⟨13, Tryd.m13.p.bn, Tryd.m13.p.sp, Tryd.m13.p.rs, Tryd.m13.p.flat, .opt (Tryd.m13.E.run 3000 Tryd.m13.p.sp)⟩
theorem Tryd.m13.holds : Tryd.m13.c.Holds Tryd.prog := fun_ctr 3000 Tryd.tbOk hct_nil Tryd.m13.ok
noncomputable def Tryd.m13 (a : List (En.Dop.Tok)) (b : List (En.Dop.Tok)) : Option (Spec.D En.Dop.D2 ⟨[.fd .bool], []⟩) := Tryd.m13.E.run 3000 Tryd.m13.p.sp ((a, b, ()), ())
noncomputable def Tryd.m13_4 (a : List (En.Dop.Tok)) (b : List (En.Dop.Tok)) (t12 : Int) (t13 : Int) : Option (Spec.D En.Dop.D2 ⟨[.fd .bool], []⟩) := Tryd.m13.E.cut 3000 4 ((a, b, t12, t13, ()), ())
theorem Tryd.m13_eq (a : List (En.Dop.Tok)) (b : List (En.Dop.Tok)) : Tryd.m13 a b =
  if (!decide (I a.length = I b.length)) = true then
   some ((false, ()), ())
  else
   Tryd.m13_4 (a) (b) (I a.length) ((0 : Int)) := by kernel_rfl
theorem Tryd.m13_4_eq (a : List (En.Dop.Tok)) (b : List (En.Dop.Tok)) (t12 : Int) (t13 : Int) : Tryd.m13_4 a b t12 t13 =
  if (decide (t13 < t12)) = true then
   if (decide ((0 : Int) ≤ t13 ∧ t13 < I a.length)) = true then
   if (decide ((0 : Int) ≤ t13 ∧ t13 < I b.length)) = true then
   if (!eqSs (List.take (4 : Nat) (List.drop (0 : Nat) (SV.v (Value.int IntKind.i64 (@List.getD Dop.Tok a t13.toNat Dop.d4).kind) :: SV.v (Value.string (ByteArray.mk (Array.mk (@List.getD Dop.Tok a t13.toNat Dop.d4).text))) :: SV.v (Value.int IntKind.i64 (@List.getD Dop.Tok a t13.toNat Dop.d4).n) :: SV.v (Value.int IntKind.i64 (@List.getD Dop.Tok a t13.toNat Dop.d4).at_) :: @List.nil SV))) (List.take (4 : Nat) (List.drop (0 : Nat) (SV.v (Value.int IntKind.i64 (@List.getD Dop.Tok b t13.toNat Dop.d4).kind) :: SV.v (Value.string (ByteArray.mk (Array.mk (@List.getD Dop.Tok b t13.toNat Dop.d4).text))) :: SV.v (Value.int IntKind.i64 (@List.getD Dop.Tok b t13.toNat Dop.d4).n) :: SV.v (Value.int IntKind.i64 (@List.getD Dop.Tok b t13.toNat Dop.d4).at_) :: @List.nil SV)))) = true then
    some ((false, ()), ())
   else
    if (inR (t13 + (1 : Int))) = true then
    Tryd.m13_4 (a) (b) (t12) (t13 + (1 : Int))
    else none
   else none
   else none
  else
   some ((true, ()), ()) := Env.cut_eq' (E := Tryd.m13.E) (f0 := 3000) (c := 4) (q := ⟨[[0, 0, 0, 0, 1, 0, 1, 1], [0, 1, 0, 0, 1, 0, 1, 1], [2, 0, 0, 1, 0, 1, 1], [1, 0], [0, 1, 1, 1]], [0, 1, 12, 13], 0, ⟨[.fd (.sl 4), .fd (.sl 4), .fd (.int .i64), .fd (.int .i64)], []⟩⟩) (by kernel_rfl) ((a, b, t12, t13, ()), ()) (by kernel_rfl) (by kernel_rfl)

def Tryd.m3.p : Pln := ⟨[], 0, ⟨[.fd .str], []⟩, ⟨[.fd .bool], []⟩, true, [], []⟩
noncomputable def Tryd.m3.E : Env En.Dop.D2 := envOf Tryd.prog 3 Tryd.tb [Tryd.m10.c, Tryd.m11.c, Tryd.m12.c, Tryd.m13.c] Tryd.m3.p
theorem Tryd.m3.ok : plnOk En.Dop.D2 Tryd.prog 3 Tryd.m3.p = true := by kernel_rfl
noncomputable def Tryd.m3.c : Ctr En.Dop.D2 := ⟨3, Tryd.m3.p.bn, Tryd.m3.p.sp, Tryd.m3.p.rs, Tryd.m3.p.flat, .opt (Tryd.m3.E.run 3000 Tryd.m3.p.sp)⟩
theorem Tryd.m3.holds : Tryd.m3.c.Holds Tryd.prog := fun_ctr 3000 Tryd.tbOk (hct_cons Tryd.m10.holds (hct_cons Tryd.m11.holds (hct_cons Tryd.m12.holds (hct_cons Tryd.m13.holds hct_nil)))) Tryd.m3.ok
noncomputable def Tryd.m3 (s : List UInt8) : Option (Spec.D En.Dop.D2 ⟨[.fd .bool], []⟩) := Tryd.m3.E.run 3000 Tryd.m3.p.sp ((s, ()), ())
theorem Tryd.m3_eq (s : List UInt8) : Tryd.m3 s =
  if (decide ((4000 : Int) < I s.length)) = true then
   if (decide (I s.length ≤ (32768 : Int))) = true then
    (Tryd.m10).bind fun y4 =>
     some ((y4.fst.fst, ()), ())
   else
    (Tryd.m11 (s)).bind fun y4 =>
     (Tryd.m12 (s)).bind fun y5 =>
      (Tryd.m13 (y4.fst.fst) (y5.fst.fst)).bind fun y6 =>
       if (y6.fst.fst) = true then
        if (decide (y4.fst.snd.fst = y5.fst.snd.fst)) = true then
         if (decide (y4.fst.snd.snd.fst = y5.fst.snd.snd.fst)) = true then
          (Tryd.m10).bind fun y10 =>
           some ((y10.fst.fst, ()), ())
         else
          some ((false, ()), ())
        else
         some ((false, ()), ())
       else
        some ((false, ()), ())
  else
   (Tryd.m11 (s)).bind fun y3 =>
    (Tryd.m12 (s)).bind fun y4 =>
     (Tryd.m13 (y3.fst.fst) (y4.fst.fst)).bind fun y5 =>
      if (y5.fst.fst) = true then
       if (decide (y3.fst.snd.fst = y4.fst.snd.fst)) = true then
        if (decide (y3.fst.snd.snd.fst = y4.fst.snd.snd.fst)) = true then
         (Tryd.m10).bind fun y9 =>
          some ((y9.fst.fst, ()), ())
        else
         some ((false, ()), ())
       else
        some ((false, ()), ())
      else
       some ((false, ()), ()) := by kernel_rfl

def Tryd.m4.p : Pln := ⟨[(7, ⟨[[0, 0, 0, 0, 1, 0, 1, 1, 1, 1], [0, 1, 0, 0, 1, 0, 1, 1, 1, 1], [2, 0, 0, 1, 0, 1, 1, 1, 1], [1, 0], [0, 1, 1, 1, 1, 1]], [0, 3, 4, 18, 19], 0, ⟨[.fd .str, .own 1 9, .own 1 9, .fd (.int .i64), .fd (.int .i64)], []⟩⟩)], 0, ⟨[.fd .str], []⟩, ⟨[.fd .bool], []⟩, true, [(9, ⟨[(0, true), (1, true), (2, false), (3, false), (4, true), (5, true), (6, false), (7, false), (8, true)], [], [0, 0, 3, 7, 0, 0, 48, 112, 255], false⟩)], []⟩
noncomputable def Tryd.m4.E : Env En.Dop.D2 := envOf Tryd.prog 4 Tryd.tb [Tryd.m10.c, Tryd.m14.c, Tryd.m15.c, Tryd.m16.c, Tryd.m17.c] Tryd.m4.p
theorem Tryd.m4.ok : plnOk En.Dop.D2 Tryd.prog 4 Tryd.m4.p = true := by kernel_rfl
noncomputable def Tryd.m4.c : Ctr En.Dop.D2 := ⟨4, Tryd.m4.p.bn, Tryd.m4.p.sp, Tryd.m4.p.rs, Tryd.m4.p.flat, .opt (Tryd.m4.E.run 3000 Tryd.m4.p.sp)⟩
theorem Tryd.m4.holds : Tryd.m4.c.Holds Tryd.prog := fun_ctr 3000 Tryd.tbOk (hct_cons Tryd.m10.holds (hct_cons Tryd.m14.holds (hct_cons Tryd.m15.holds (hct_cons Tryd.m16.holds (hct_cons Tryd.m17.holds hct_nil))))) Tryd.m4.ok
noncomputable def Tryd.m4 (s : List UInt8) : Option (Spec.D En.Dop.D2 ⟨[.fd .bool], []⟩) := Tryd.m4.E.run 3000 Tryd.m4.p.sp ((s, ()), ())
noncomputable def Tryd.m4_7 (s : List UInt8) (a : List (List UInt8)) (b : List (List UInt8)) (t18 : Int) (t19 : Int) : Option (Spec.D En.Dop.D2 ⟨[.fd .bool], []⟩) := Tryd.m4.E.cut 3000 7 ((s, a, b, t18, t19, ()), ())
theorem Tryd.m4_eq (s : List UInt8) : Tryd.m4 s =
  if (decide ((100 : Int) < I s.length)) = true then
   (Tryd.m10).bind fun y3 =>
    some ((y3.fst.fst, ()), ())
  else
   (Tryd.m14).bind fun y3 =>
    (Tryd.m15).bind fun y4 =>
     if (!decide (I y3.fst.fst.length = I y4.fst.fst.length)) = true then
      some ((false, ()), ())
     else
      Tryd.m4_7 (s) (y3.fst.fst) (y4.fst.fst) (I y3.fst.fst.length) ((0 : Int)) := by kernel_rfl
theorem Tryd.m4_7_eq (s : List UInt8) (a : List (List UInt8)) (b : List (List UInt8)) (t18 : Int) (t19 : Int) : Tryd.m4_7 s a b t18 t19 =
  if (decide (t19 < t18)) = true then
   if (decide ((0 : Int) ≤ t19 ∧ t19 < I a.length)) = true then
   if (decide (t19.toNat < a.length)) = true then
   if (decide ((0 : Int) ≤ t19 ∧ t19 < I b.length)) = true then
   if (decide (t19.toNat < b.length)) = true then
   if (!decide (@List.getD (List UInt8) a t19.toNat (@List.nil UInt8) = @List.getD (List UInt8) b t19.toNat (@List.nil UInt8))) = true then
    some ((false, ()), ())
   else
    if (inR (t19 + (1 : Int))) = true then
    Tryd.m4_7 (s) (a) (b) (t18) (t19 + (1 : Int))
    else none
   else none
   else none
   else none
   else none
  else
   (Tryd.m16 (s)).bind fun y3 =>
    (Tryd.m17 (s)).bind fun y4 =>
     if (y3.fst.fst == y4.fst.fst) = true then
      (Tryd.m10).bind fun y6 =>
       some ((y6.fst.fst, ()), ())
     else
      some ((false, ()), ()) := Env.cut_eq' (E := Tryd.m4.E) (f0 := 3000) (c := 7) (q := ⟨[[0, 0, 0, 0, 1, 0, 1, 1, 1, 1], [0, 1, 0, 0, 1, 0, 1, 1, 1, 1], [2, 0, 0, 1, 0, 1, 1, 1, 1], [1, 0], [0, 1, 1, 1, 1, 1]], [0, 3, 4, 18, 19], 0, ⟨[.fd .str, .own 1 9, .own 1 9, .fd (.int .i64), .fd (.int .i64)], []⟩⟩) (by kernel_rfl) ((s, a, b, t18, t19, ()), ()) (by kernel_rfl) (by kernel_rfl)

def Tryd.m18.p : Pln := ⟨[], 0, ⟨[.fd .str], []⟩, ⟨[.fd .bool], []⟩, true, [], []⟩
noncomputable def Tryd.m18.E : Env En.Dop.D2 := envOf Tryd.prog 18 Tryd.tb [Tryd.m11.c] Tryd.m18.p
theorem Tryd.m18.ok : plnOk En.Dop.D2 Tryd.prog 18 Tryd.m18.p = true := by kernel_rfl
noncomputable def Tryd.m18.c : Ctr En.Dop.D2 := ⟨18, Tryd.m18.p.bn, Tryd.m18.p.sp, Tryd.m18.p.rs, Tryd.m18.p.flat, .opt (Tryd.m18.E.run 3000 Tryd.m18.p.sp)⟩
theorem Tryd.m18.holds : Tryd.m18.c.Holds Tryd.prog := fun_ctr 3000 Tryd.tbOk (hct_cons Tryd.m11.holds hct_nil) Tryd.m18.ok
noncomputable def Tryd.m18 (a : List UInt8) : Option (Spec.D En.Dop.D2 ⟨[.fd .bool], []⟩) := Tryd.m18.E.run 3000 Tryd.m18.p.sp ((a, ()), ())
theorem Tryd.m18_eq (a : List UInt8) : Tryd.m18 a =
  if (decide (a.length + ((10 : UInt8) :: (120 : UInt8) :: @List.nil UInt8).length ≤ (9223372036854775807 : Nat))) = true then
  (Tryd.m11 (a ++ (10 : UInt8) :: (120 : UInt8) :: @List.nil UInt8)).bind fun y2 =>
   if (decide (a.length + ((32 : UInt8) :: (120 : UInt8) :: @List.nil UInt8).length ≤ (9223372036854775807 : Nat))) = true then
   (Tryd.m11 (a ++ (32 : UInt8) :: (120 : UInt8) :: @List.nil UInt8)).bind fun y3 =>
    some ((!decide (I y2.fst.fst.length = I y3.fst.fst.length), ()), ())
   else none
  else none := by kernel_rfl
end Go.Proofs
