/-
  Functions of the seat, lifted: plan, model, contract, equations. Written by a program (Lift) that ran the layer's evaluation; Lean checks each line.
-/
import Derived.Test.YtcifaokahhbflaaDoorEn14
import Derived.Test.YtcifaokahhbflaaDoorTab2
import Derived.Test.YtcifaokahhbflaaDoorLfA
namespace Go.Proofs
open Go Go.En

def Tryd.m5.p : Pln := ⟨[(8, ⟨[[0, 0, 0, 0, 1, 0, 1, 1, 1, 1, 1], [0, 1, 0, 0, 1, 0, 1, 1, 1, 1, 1], [2, 0, 0, 1, 0, 1, 1, 1, 1, 1], [1, 0], [0, 1, 1, 1, 1, 1, 1]], [3, 6, 31, 32, 33], 1, ⟨[.rw 0, .fd .str, .rw 0, .fd (.int .i64), .fd (.int .i64)], [⟨0, 0, [.own 4 32], true⟩]⟩⟩), (16, ⟨[[0, 0, 0, 0, 1, 0, 1, 1, 1, 1, 1, 1, 1, 1], [0, 1, 0, 0, 1, 0, 1, 1, 1, 1, 1, 1, 1, 1], [2, 0, 0, 1, 0, 1, 1, 1, 1, 1, 1, 1, 1], [1, 2], [0, 1, 1, 1, 1, 1, 1, 1, 1, 1]], [3, 9, 59, 60], 0, ⟨[.own 4 32, .own 4 32, .fd (.int .i64), .fd (.int .i64)], []⟩⟩)], 0, ⟨[.fd .str], []⟩, ⟨[.fd .bool], []⟩, true, [], []⟩
noncomputable def Tryd.m5.E : Env En.Dop.D2 := envOf Tryd.prog 5 Tryd.tb [Tryd.m10.c, Tryd.m11.c, Tryd.m13.c] Tryd.m5.p
theorem Tryd.m5.ok : plnOk En.Dop.D2 Tryd.prog 5 Tryd.m5.p = true := by kernel_rfl
noncomputable def Tryd.m5.c : Ctr En.Dop.D2 := ⟨5, Tryd.m5.p.bn, Tryd.m5.p.sp, Tryd.m5.p.rs, Tryd.m5.p.flat, .opt (Tryd.m5.E.run 3000 Tryd.m5.p.sp)⟩
theorem Tryd.m5.holds : Tryd.m5.c.Holds Tryd.prog := fun_ctr 3000 Tryd.tbOk (hct_cons Tryd.m10.holds (hct_cons Tryd.m11.holds (hct_cons Tryd.m13.holds hct_nil))) Tryd.m5.ok
noncomputable def Tryd.m5 (o : List UInt8) : Option (Spec.D En.Dop.D2 ⟨[.fd .bool], []⟩) := Tryd.m5.E.run 3000 Tryd.m5.p.sp ((o, ()), ())
noncomputable def Tryd.m5_8 (t6 : List UInt8) (t32 : Int) (t33 : Int) (b0 : List (En.Dop.Tok)) : Option (Spec.D En.Dop.D2 ⟨[.fd .bool], []⟩) := Tryd.m5.E.cut 3000 8 (((), t6, (), t32, t33, ()), ((b0, ()), ()))
noncomputable def Tryd.m5_16 (t3 : List (En.Dop.Tok)) (t9 : List (En.Dop.Tok)) (t59 : Int) (t60 : Int) : Option (Spec.D En.Dop.D2 ⟨[.fd .bool], []⟩) := Tryd.m5.E.cut 3000 16 ((t3, t9, t59, t60, ()), ())
theorem Tryd.m5_eq (o : List UInt8) : Tryd.m5 o =
  if (decide ((4000 : Int) < I o.length)) = true then
   (Tryd.m10).bind fun y3 =>
    some ((y3.fst.fst, ()), ())
  else
   (Tryd.m11 (o)).bind fun y3 =>
    if (!decide (y3.fst.snd.snd.fst = (0 : Int))) = true then
     if (decide (I y3.fst.fst.length = (0 : Int))) = true then
      (Tryd.m10).bind fun y6 =>
       some ((y6.fst.fst, ()), ())
     else
      some ((false, ()), ())
    else
     Tryd.m5_8 (@List.nil UInt8) (I y3.fst.fst.length) ((0 : Int)) (y3.fst.fst) := by kernel_rfl
theorem Tryd.m5_8_eq (t6 : List UInt8) (t32 : Int) (t33 : Int) (b0 : List (En.Dop.Tok)) : Tryd.m5_8 t6 t32 t33 b0 =
  if (decide (t33 < t32)) = true then
   if (decide ((0 : Int) ≤ t33 ∧ t33 < I b0.length)) = true then
   if (decide (t33.toNat < b0.length)) = true then
   if (decide ((@List.getD Dop.Tok b0 t33.toNat Dop.d4).text.length + ((32 : UInt8) :: @List.nil UInt8).length ≤ (9223372036854775807 : Nat))) = true then
   if (decide (t6.length + ((@List.getD Dop.Tok b0 t33.toNat Dop.d4).text ++ (32 : UInt8) :: @List.nil UInt8).length ≤ (9223372036854775807 : Nat))) = true then
   if (inR (t33 + (1 : Int))) = true then
   Tryd.m5_8 (t6 ++ ((@List.getD Dop.Tok b0 t33.toNat Dop.d4).text ++ (32 : UInt8) :: @List.nil UInt8)) (t32) (t33 + (1 : Int)) (b0)
   else none
   else none
   else none
   else none
   else none
  else
   (Tryd.m11 (t6)).bind fun y3 =>
    if (!decide (y3.fst.snd.snd.fst = (0 : Int))) = true then
     some ((false, ()), ())
    else
     if (!decide (I y3.fst.fst.length = I b0.length)) = true then
      some ((false, ()), ())
     else
      Tryd.m5_16 (b0) (y3.fst.fst) (I b0.length) ((0 : Int)) := Env.cut_eq' (E := Tryd.m5.E) (f0 := 3000) (c := 8) (q := ⟨[[0, 0, 0, 0, 1, 0, 1, 1, 1, 1, 1], [0, 1, 0, 0, 1, 0, 1, 1, 1, 1, 1], [2, 0, 0, 1, 0, 1, 1, 1, 1, 1], [1, 0], [0, 1, 1, 1, 1, 1, 1]], [3, 6, 31, 32, 33], 1, ⟨[.rw 0, .fd .str, .rw 0, .fd (.int .i64), .fd (.int .i64)], [⟨0, 0, [.own 4 32], true⟩]⟩⟩) (by kernel_rfl) (((), t6, (), t32, t33, ()), ((b0, ()), ())) (by kernel_rfl) (by kernel_rfl)
theorem Tryd.m5_16_eq (t3 : List (En.Dop.Tok)) (t9 : List (En.Dop.Tok)) (t59 : Int) (t60 : Int) : Tryd.m5_16 t3 t9 t59 t60 =
  if (decide (t60 < t59)) = true then
   if (decide ((0 : Int) ≤ t60 ∧ t60 < I t3.length)) = true then
   if (decide (t60.toNat < t3.length)) = true then
   if (decide ((0 : Int) ≤ t60 ∧ t60 < I t9.length)) = true then
   if (decide (t60.toNat < t9.length)) = true then
   if (inR (t60 + (1 : Int))) = true then
   Tryd.m5_16 (t3.set t60.toNat (Dop.Tok.mk (@List.getD Dop.Tok t3 t60.toNat Dop.d4).kind (@List.getD Dop.Tok t3 t60.toNat Dop.d4).text (@List.getD Dop.Tok t3 t60.toNat Dop.d4).n (0 : Int))) (t9.set t60.toNat (Dop.Tok.mk (@List.getD Dop.Tok t9 t60.toNat Dop.d4).kind (@List.getD Dop.Tok t9 t60.toNat Dop.d4).text (@List.getD Dop.Tok t9 t60.toNat Dop.d4).n (0 : Int))) (t59) (t60 + (1 : Int))
   else none
   else none
   else none
   else none
   else none
  else
   (Tryd.m13 (t3) (t9)).bind fun y3 =>
    if (y3.fst.fst) = true then
     (Tryd.m10).bind fun y5 =>
      some ((y5.fst.fst, ()), ())
    else
     some ((false, ()), ()) := Env.cut_eq' (E := Tryd.m5.E) (f0 := 3000) (c := 16) (q := ⟨[[0, 0, 0, 0, 1, 0, 1, 1, 1, 1, 1, 1, 1, 1], [0, 1, 0, 0, 1, 0, 1, 1, 1, 1, 1, 1, 1, 1], [2, 0, 0, 1, 0, 1, 1, 1, 1, 1, 1, 1, 1], [1, 2], [0, 1, 1, 1, 1, 1, 1, 1, 1, 1]], [3, 9, 59, 60], 0, ⟨[.own 4 32, .own 4 32, .fd (.int .i64), .fd (.int .i64)], []⟩⟩) (by kernel_rfl) ((t3, t9, t59, t60, ()), ()) (by kernel_rfl) (by kernel_rfl)

def Tryd.m6.p : Pln := ⟨[(8, ⟨[[0, 0, 0, 0, 1, 0, 1, 1, 1, 1, 1], [0, 1, 0, 0, 1, 0, 1, 1, 1, 1, 1], [2, 0, 0, 1, 0, 1, 1, 1, 1, 1], [1, 0], [0, 1, 1, 1, 1, 1, 1]], [0, 3, 6, 22, 23, 24], 1, ⟨[.fd .str, .rw 0, .fd (.int .i64), .rw 0, .fd (.int .i64), .fd (.int .i64)], [⟨0, 0, [.own 4 32], true⟩]⟩⟩)], 0, ⟨[.fd .str], []⟩, ⟨[.fd .bool], []⟩, true, [(10, ⟨[(0, true), (1, false), (2, true), (3, true), (4, true), (5, true), (6, false), (7, true), (8, false), (9, false), (10, true), (11, true), (12, false), (13, true), (14, true), (15, true), (16, true), (17, true), (18, false), (19, true), (20, false), (21, true), (22, false), (23, false), (24, true), (25, true), (26, true), (27, false), (28, true), (29, true), (30, true), (31, true), (32, false), (33, true), (34, true), (35, true), (36, false), (37, true), (38, true), (39, true), (40, true), (41, true), (42, true), (43, false), (44, true), (45, true), (46, false), (47, true), (48, true), (49, true), (50, true), (51, true), (52, false), (53, true), (54, true), (55, true), (56, true), (57, false), (58, true), (59, true)], [], [0, 1, 0, 7, 15, 31, 63, 31, 159, 415, 1023, 31, 2079, 8191, 16383, 32767, 65535, 65535, 196607, 65535, 589823, 65535, 2162687, 6356991, 16318463, 33554431, 65535, 67174399, 268435455, 536870911, 1073741823, 2147483647, 4294967295, 8589934591, 2147483647, 2147483647, 36507222015, 105226698751, 259845521407, 549755813887, 1099511627775, 2199023255551, 4398046511103, 8796093022207, 17592186044415, 4398046511103, 39582418599935, 109951162777599, 281474976710655, 562949953421311, 1125899906842623, 2251799813685247, 4503599627370495, 9007199254740991, 18014398509481983, 36028797018963967, 72057594037927935, 144115188075855871, 288230376151711743, 576460752303423487], false⟩)], []⟩
noncomputable def Tryd.m6.E : Env En.Dop.D2 := envOf Tryd.prog 6 Tryd.tb [Tryd.m10.c, Tryd.m11.c] Tryd.m6.p
theorem Tryd.m6.ok : plnOk En.Dop.D2 Tryd.prog 6 Tryd.m6.p = true := by kernel_rfl
noncomputable def Tryd.m6.c : Ctr En.Dop.D2 := ⟨6, Tryd.m6.p.bn, Tryd.m6.p.sp, Tryd.m6.p.rs, Tryd.m6.p.flat, .opt (Tryd.m6.E.run 3000 Tryd.m6.p.sp)⟩
theorem Tryd.m6.holds : Tryd.m6.c.Holds Tryd.prog := fun_ctr 3000 Tryd.tbOk (hct_cons Tryd.m10.holds (hct_cons Tryd.m11.holds hct_nil)) Tryd.m6.ok
noncomputable def Tryd.m6 (o : List UInt8) : Option (Spec.D En.Dop.D2 ⟨[.fd .bool], []⟩) := Tryd.m6.E.run 3000 Tryd.m6.p.sp ((o, ()), ())
noncomputable def Tryd.m6_8 (o : List UInt8) (t6 : Int) (t23 : Int) (t24 : Int) (b0 : List (En.Dop.Tok)) : Option (Spec.D En.Dop.D2 ⟨[.fd .bool], []⟩) := Tryd.m6.E.cut 3000 8 ((o, (), t6, (), t23, t24, ()), ((b0, ()), ()))
theorem Tryd.m6_eq (o : List UInt8) : Tryd.m6 o =
  if (decide ((4000 : Int) < I o.length)) = true then
   (Tryd.m10).bind fun y3 =>
    some ((y3.fst.fst, ()), ())
  else
   (Tryd.m11 (o)).bind fun y3 =>
    if (!decide (y3.fst.snd.snd.fst = (0 : Int))) = true then
     (Tryd.m10).bind fun y5 =>
      some ((y5.fst.fst, ()), ())
    else
     Tryd.m6_8 (o) ((0 : Int)) (I y3.fst.fst.length) ((0 : Int)) (y3.fst.fst) := by kernel_rfl
theorem Tryd.m6_8_eq (o : List UInt8) (t6 : Int) (t23 : Int) (t24 : Int) (b0 : List (En.Dop.Tok)) : Tryd.m6_8 o t6 t23 t24 b0 =
  if (decide (t24 < t23)) = true then
   if (decide ((0 : Int) ≤ t24 ∧ t24 < I b0.length)) = true then
   if (decide (t24.toNat < b0.length)) = true then
   if (decide ((@List.getD Dop.Tok b0 t24.toNat Dop.d4).at_ < t6)) = true then
    some ((false, ()), ())
   else
    if (inR ((@List.getD Dop.Tok b0 t24.toNat Dop.d4).at_ + I (@List.getD Dop.Tok b0 t24.toNat Dop.d4).text.length)) = true then
    if (decide (I o.length < (@List.getD Dop.Tok b0 t24.toNat Dop.d4).at_ + I (@List.getD Dop.Tok b0 t24.toNat Dop.d4).text.length)) = true then
     some ((false, ()), ())
    else
     if (inR ((@List.getD Dop.Tok b0 t24.toNat Dop.d4).at_ + I (@List.getD Dop.Tok b0 t24.toNat Dop.d4).text.length)) = true then
     if (decide ((0 : Int) ≤ (@List.getD Dop.Tok b0 t24.toNat Dop.d4).at_ ∧ (@List.getD Dop.Tok b0 t24.toNat Dop.d4).at_ ≤ (@List.getD Dop.Tok b0 t24.toNat Dop.d4).at_ + I (@List.getD Dop.Tok b0 t24.toNat Dop.d4).text.length ∧ (@List.getD Dop.Tok b0 t24.toNat Dop.d4).at_ + I (@List.getD Dop.Tok b0 t24.toNat Dop.d4).text.length ≤ I o.length)) = true then
     if (!decide (List.drop (@List.getD Dop.Tok b0 t24.toNat Dop.d4).at_.toNat (List.take ((@List.getD Dop.Tok b0 t24.toNat Dop.d4).at_ + I (@List.getD Dop.Tok b0 t24.toNat Dop.d4).text.length).toNat o) = (@List.getD Dop.Tok b0 t24.toNat Dop.d4).text)) = true then
      some ((false, ()), ())
     else
      if (inR (I b0.length - (1 : Int))) = true then
      if (!decide ((@List.getD Dop.Tok b0 t24.toNat Dop.d4).kind = (0 : Int)) == decide (t24 = I b0.length - (1 : Int))) = true then
       some ((false, ()), ())
      else
       if (!decide ((@List.getD Dop.Tok b0 t24.toNat Dop.d4).text = @List.nil UInt8) == decide ((@List.getD Dop.Tok b0 t24.toNat Dop.d4).kind = (0 : Int))) = true then
        some ((false, ()), ())
       else
        if (decide ((@List.getD Dop.Tok b0 t24.toNat Dop.d4).n < (0 : Int))) = true then
         some ((false, ()), ())
        else
         if (decide ((4294967296 : Int) ≤ (@List.getD Dop.Tok b0 t24.toNat Dop.d4).n)) = true then
          some ((false, ()), ())
         else
          if (inR ((@List.getD Dop.Tok b0 t24.toNat Dop.d4).at_ + I (@List.getD Dop.Tok b0 t24.toNat Dop.d4).text.length)) = true then
          if (inR (t24 + (1 : Int))) = true then
          Tryd.m6_8 (o) ((@List.getD Dop.Tok b0 t24.toNat Dop.d4).at_ + I (@List.getD Dop.Tok b0 t24.toNat Dop.d4).text.length) (t23) (t24 + (1 : Int)) (b0)
          else none
          else none
      else none
     else none
     else none
    else none
   else none
   else none
  else
   if (decide ((0 : Int) < I b0.length)) = true then
    if (inR (I b0.length - (1 : Int))) = true then
    if (decide ((0 : Int) ≤ I b0.length - (1 : Int) ∧ I b0.length - (1 : Int) < I b0.length)) = true then
    if (decide ((I b0.length - (1 : Int)).toNat < b0.length)) = true then
    if (decide ((@List.getD Dop.Tok b0 (I b0.length - (1 : Int)).toNat Dop.d4).at_ = I o.length)) = true then
     (Tryd.m10).bind fun y5 =>
      some ((y5.fst.fst, ()), ())
    else
     some ((false, ()), ())
    else none
    else none
    else none
   else
    some ((false, ()), ()) := Env.cut_eq' (E := Tryd.m6.E) (f0 := 3000) (c := 8) (q := ⟨[[0, 0, 0, 0, 1, 0, 1, 1, 1, 1, 1], [0, 1, 0, 0, 1, 0, 1, 1, 1, 1, 1], [2, 0, 0, 1, 0, 1, 1, 1, 1, 1], [1, 0], [0, 1, 1, 1, 1, 1, 1]], [0, 3, 6, 22, 23, 24], 1, ⟨[.fd .str, .rw 0, .fd (.int .i64), .rw 0, .fd (.int .i64), .fd (.int .i64)], [⟨0, 0, [.own 4 32], true⟩]⟩⟩) (by kernel_rfl) ((o, (), t6, (), t23, t24, ()), ((b0, ()), ())) (by kernel_rfl) (by kernel_rfl)

def Tryd.m7.p : Pln := ⟨[(4, ⟨[[0, 0, 0, 0, 1, 0, 1, 1], [0, 1, 0, 0, 1, 0, 1, 1], [2, 0, 0, 1, 0, 1, 1], [1, 0], [0, 1, 1, 1]], [0, 1, 2, 3, 41, 42], 0, ⟨[.fd .str, .fd .str, .fd .str, .fd (.int .u8), .fd (.int .i64), .fd (.int .i64)], []⟩⟩), (16, ⟨[[0, 0, 0, 0, 1, 0, 1, 1, 1, 1, 1, 1, 1], [0, 1, 0, 0, 1, 0, 1, 1, 1, 1, 1, 1, 1], [2, 0, 0, 1, 0, 1, 1, 1, 1, 1, 1, 1], [1, 2], [0, 1, 1, 1, 1, 1, 1, 1, 1]], [0, 11, 13, 14, 16, 97, 98, 99], 1, ⟨[.fd .str, .rw 0, .fd (.int .i64), .own 4 32, .fd (.int .i64), .rw 0, .fd (.int .i64), .fd (.int .i64)], [⟨0, 0, [.own 4 32], true⟩]⟩⟩), (27, ⟨[[0, 0, 0, 0, 1, 0, 1, 1, 1, 1, 1, 1, 1, 1, 1, 1], [0, 1, 0, 0, 1, 0, 1, 1, 1, 1, 1, 1, 1, 1, 1, 1], [2, 0, 0, 1, 0, 1, 1, 1, 1, 1, 1, 1, 1, 1, 1], [1, 4], [0, 1, 1, 1, 1, 1, 1, 1, 1, 1, 1, 1]], [11, 14, 164, 165], 0, ⟨[.own 4 32, .own 4 32, .fd (.int .i64), .fd (.int .i64)], []⟩⟩)], 0, ⟨[.fd .str, .fd .str, .fd .str, .fd (.int .u8)], []⟩, ⟨[.fd .bool], []⟩, true, [], []⟩
noncomputable def Tryd.m7.E : Env En.Dop.D2 := envOf Tryd.prog 7 Tryd.tb [Tryd.m10.c, Tryd.m11.c, Tryd.m18.c, Tryd.m13.c] Tryd.m7.p
theorem Tryd.m7.ok : plnOk En.Dop.D2 Tryd.prog 7 Tryd.m7.p = true := by kernel_rfl
noncomputable def Tryd.m7.c : Ctr En.Dop.D2 := ⟨7, Tryd.m7.p.bn, Tryd.m7.p.sp, Tryd.m7.p.rs, Tryd.m7.p.flat, .opt (Tryd.m7.E.run 3000 Tryd.m7.p.sp)⟩
theorem Tryd.m7.holds : Tryd.m7.c.Holds Tryd.prog := fun_ctr 3000 Tryd.tbOk (hct_cons Tryd.m10.holds (hct_cons Tryd.m11.holds (hct_cons Tryd.m18.holds (hct_cons Tryd.m13.holds hct_nil)))) Tryd.m7.ok
noncomputable def Tryd.m7 (o : List UInt8) (t1 : List UInt8) (t2 : List UInt8) (t3 : Int) : Option (Spec.D En.Dop.D2 ⟨[.fd .bool], []⟩) := Tryd.m7.E.run 3000 Tryd.m7.p.sp ((o, t1, t2, t3, ()), ())
noncomputable def Tryd.m7_4 (o : List UInt8) (t1 : List UInt8) (t2 : List UInt8) (t3 : Int) (t41 : Int) (t42 : Int) : Option (Spec.D En.Dop.D2 ⟨[.fd .bool], []⟩) := Tryd.m7.E.cut 3000 4 ((o, t1, t2, t3, t41, t42, ()), ())
noncomputable def Tryd.m7_16 (o : List UInt8) (t13 : Int) (t14 : List (En.Dop.Tok)) (t16 : Int) (t98 : Int) (t99 : Int) (b0 : List (En.Dop.Tok)) : Option (Spec.D En.Dop.D2 ⟨[.fd .bool], []⟩) := Tryd.m7.E.cut 3000 16 ((o, (), t13, t14, t16, (), t98, t99, ()), ((b0, ()), ()))
noncomputable def Tryd.m7_27 (t11 : List (En.Dop.Tok)) (t14 : List (En.Dop.Tok)) (t164 : Int) (t165 : Int) : Option (Spec.D En.Dop.D2 ⟨[.fd .bool], []⟩) := Tryd.m7.E.cut 3000 27 ((t11, t14, t164, t165, ()), ())
theorem Tryd.m7_eq (o : List UInt8) (t1 : List UInt8) (t2 : List UInt8) (t3 : Int) : Tryd.m7 o t1 t2 t3 =
  if (decide ((2000 : Int) < I o.length)) = true then
   (Tryd.m10).bind fun y3 =>
    some ((y3.fst.fst, ()), ())
  else
   if (decide ((2000 : Int) < I t1.length)) = true then
    (Tryd.m10).bind fun y4 =>
     some ((y4.fst.fst, ()), ())
   else
    if (decide ((100 : Int) < I t2.length)) = true then
     (Tryd.m10).bind fun y5 =>
      some ((y5.fst.fst, ()), ())
    else
     Tryd.m7_4 (o) (t1) (t2) (t3) (I t2.length) ((0 : Int)) := by kernel_rfl
theorem Tryd.m7_4_eq (o : List UInt8) (t1 : List UInt8) (t2 : List UInt8) (t3 : Int) (t41 : Int) (t42 : Int) : Tryd.m7_4 o t1 t2 t3 t41 t42 =
  if (decide (t42 < t41)) = true then
   if (decide ((0 : Int) ≤ t42 ∧ t42 < I t2.length)) = true then
   if (decide (strAt t2 t42 = (42 : Int))) = true then
    (Tryd.m10).bind fun y4 =>
     some ((y4.fst.fst, ()), ())
   else
    if (decide ((0 : Int) ≤ t42 ∧ t42 < I t2.length)) = true then
    if (decide (strAt t2 t42 = (10 : Int))) = true then
     (Tryd.m10).bind fun y5 =>
      some ((y5.fst.fst, ()), ())
    else
     if (inR (t42 + (1 : Int))) = true then
     Tryd.m7_4 (o) (t1) (t2) (t3) (t41) (t42 + (1 : Int))
     else none
    else none
   else none
  else
   if (decide (((47 : UInt8) :: (47 : UInt8) :: @List.nil UInt8).length + t2.length ≤ (9223372036854775807 : Nat))) = true then
   if (decide (((47 : UInt8) :: (47 : UInt8) :: @List.nil UInt8 ++ t2).length + ((10 : UInt8) :: @List.nil UInt8).length ≤ (9223372036854775807 : Nat))) = true then
   if (decide (((47 : UInt8) :: (42 : UInt8) :: @List.nil UInt8).length + t2.length ≤ (9223372036854775807 : Nat))) = true then
   if (decide (((47 : UInt8) :: (42 : UInt8) :: @List.nil UInt8 ++ t2).length + ((42 : UInt8) :: (47 : UInt8) :: @List.nil UInt8).length ≤ (9223372036854775807 : Nat))) = true then
   if (decide ((4 : Int) ≠ (0 : Int))) = true then
   if (decide ((0 : Int) ≤ t3.tmod (4 : Int) ∧ t3.tmod (4 : Int) < I (((10 : UInt8) :: @List.nil UInt8) :: ((9 : UInt8) :: (32 : UInt8) :: (13 : UInt8) :: (10 : UInt8) :: @List.nil UInt8) :: ((47 : UInt8) :: (47 : UInt8) :: @List.nil UInt8 ++ t2 ++ (10 : UInt8) :: @List.nil UInt8) :: ((47 : UInt8) :: (42 : UInt8) :: @List.nil UInt8 ++ t2 ++ (42 : UInt8) :: (47 : UInt8) :: @List.nil UInt8) :: @List.nil (List UInt8)).length)) = true then
   if (decide ((t3.tmod (4 : Int)).toNat < (((10 : UInt8) :: @List.nil UInt8) :: ((9 : UInt8) :: (32 : UInt8) :: (13 : UInt8) :: (10 : UInt8) :: @List.nil UInt8) :: ((47 : UInt8) :: (47 : UInt8) :: @List.nil UInt8 ++ t2 ++ (10 : UInt8) :: @List.nil UInt8) :: ((47 : UInt8) :: (42 : UInt8) :: @List.nil UInt8 ++ t2 ++ (42 : UInt8) :: (47 : UInt8) :: @List.nil UInt8) :: @List.nil (List UInt8)).length)) = true then
   if (decide (o.length + ((32 : UInt8) :: @List.nil UInt8).length ≤ (9223372036854775807 : Nat))) = true then
   if (decide ((o ++ (32 : UInt8) :: @List.nil UInt8).length + t1.length ≤ (9223372036854775807 : Nat))) = true then
   (Tryd.m11 (o ++ (32 : UInt8) :: @List.nil UInt8 ++ t1)).bind fun y3 =>
    if (decide (o.length + ((32 : UInt8) :: @List.nil UInt8).length ≤ (9223372036854775807 : Nat))) = true then
    if (decide ((o ++ (32 : UInt8) :: @List.nil UInt8).length + ((((10 : UInt8) :: @List.nil UInt8) :: ((9 : UInt8) :: (32 : UInt8) :: (13 : UInt8) :: (10 : UInt8) :: @List.nil UInt8) :: ((47 : UInt8) :: (47 : UInt8) :: @List.nil UInt8 ++ t2 ++ (10 : UInt8) :: @List.nil UInt8) :: ((47 : UInt8) :: (42 : UInt8) :: @List.nil UInt8 ++ t2 ++ (42 : UInt8) :: (47 : UInt8) :: @List.nil UInt8) :: @List.nil (List UInt8)).getD (t3.tmod (4 : Int)).toNat (@List.nil UInt8)).length ≤ (9223372036854775807 : Nat))) = true then
    if (decide ((o ++ (32 : UInt8) :: @List.nil UInt8 ++ (((10 : UInt8) :: @List.nil UInt8) :: ((9 : UInt8) :: (32 : UInt8) :: (13 : UInt8) :: (10 : UInt8) :: @List.nil UInt8) :: ((47 : UInt8) :: (47 : UInt8) :: @List.nil UInt8 ++ t2 ++ (10 : UInt8) :: @List.nil UInt8) :: ((47 : UInt8) :: (42 : UInt8) :: @List.nil UInt8 ++ t2 ++ (42 : UInt8) :: (47 : UInt8) :: @List.nil UInt8) :: @List.nil (List UInt8)).getD (t3.tmod (4 : Int)).toNat (@List.nil UInt8)).length + t1.length ≤ (9223372036854775807 : Nat))) = true then
    (Tryd.m11 (o ++ (32 : UInt8) :: @List.nil UInt8 ++ (((10 : UInt8) :: @List.nil UInt8) :: ((9 : UInt8) :: (32 : UInt8) :: (13 : UInt8) :: (10 : UInt8) :: @List.nil UInt8) :: ((47 : UInt8) :: (47 : UInt8) :: @List.nil UInt8 ++ t2 ++ (10 : UInt8) :: @List.nil UInt8) :: ((47 : UInt8) :: (42 : UInt8) :: @List.nil UInt8 ++ t2 ++ (42 : UInt8) :: (47 : UInt8) :: @List.nil UInt8) :: @List.nil (List UInt8)).getD (t3.tmod (4 : Int)).toNat (@List.nil UInt8) ++ t1)).bind fun y4 =>
     (Tryd.m11 (o)).bind fun y5 =>
      if (!decide (y5.fst.snd.snd.fst = (0 : Int))) = true then
       (Tryd.m10).bind fun y7 =>
        some ((y7.fst.fst, ()), ())
      else
       Tryd.m7_16 (o) (y3.fst.snd.snd.fst) (y4.fst.fst) (y4.fst.snd.snd.fst) (I y3.fst.fst.length) ((0 : Int)) (y3.fst.fst)
    else none
    else none
    else none
   else none
   else none
   else none
   else none
   else none
   else none
   else none
   else none
   else none := Env.cut_eq' (E := Tryd.m7.E) (f0 := 3000) (c := 4) (q := ⟨[[0, 0, 0, 0, 1, 0, 1, 1], [0, 1, 0, 0, 1, 0, 1, 1], [2, 0, 0, 1, 0, 1, 1], [1, 0], [0, 1, 1, 1]], [0, 1, 2, 3, 41, 42], 0, ⟨[.fd .str, .fd .str, .fd .str, .fd (.int .u8), .fd (.int .i64), .fd (.int .i64)], []⟩⟩) (by kernel_rfl) ((o, t1, t2, t3, t41, t42, ()), ()) (by kernel_rfl) (by kernel_rfl)
theorem Tryd.m7_16_eq (o : List UInt8) (t13 : Int) (t14 : List (En.Dop.Tok)) (t16 : Int) (t98 : Int) (t99 : Int) (b0 : List (En.Dop.Tok)) : Tryd.m7_16 o t13 t14 t16 t98 t99 b0 =
  if (decide (t99 < t98)) = true then
   if (decide ((0 : Int) ≤ t99 ∧ t99 < I b0.length)) = true then
   if (decide (t99.toNat < b0.length)) = true then
   if (decide ((@List.getD Dop.Tok b0 t99.toNat Dop.d4).at_ < I o.length)) = true then
    if (inR ((@List.getD Dop.Tok b0 t99.toNat Dop.d4).at_ + I (@List.getD Dop.Tok b0 t99.toNat Dop.d4).text.length)) = true then
    if (decide (I o.length < (@List.getD Dop.Tok b0 t99.toNat Dop.d4).at_ + I (@List.getD Dop.Tok b0 t99.toNat Dop.d4).text.length)) = true then
     (Tryd.m10).bind fun y5 =>
      some ((y5.fst.fst, ()), ())
    else
     if (inR (t99 + (1 : Int))) = true then
     Tryd.m7_16 (o) (t13) (t14) (t16) (t98) (t99 + (1 : Int)) (b0)
     else none
    else none
   else
    if (inR (t99 + (1 : Int))) = true then
    Tryd.m7_16 (o) (t13) (t14) (t16) (t98) (t99 + (1 : Int)) (b0)
    else none
   else none
   else none
  else
   if (decide (o.length + ((32 : UInt8) :: @List.nil UInt8).length ≤ (9223372036854775807 : Nat))) = true then
   (Tryd.m11 (o ++ (32 : UInt8) :: @List.nil UInt8)).bind fun y3 =>
    if (!decide (y3.fst.snd.snd.fst = (0 : Int))) = true then
     (Tryd.m10).bind fun y5 =>
      some ((y5.fst.fst, ()), ())
    else
     if (decide (I y3.fst.fst.length = (0 : Int))) = true then
      (Tryd.m10).bind fun y6 =>
       some ((y6.fst.fst, ()), ())
     else
      if (inR (I y3.fst.fst.length - (1 : Int))) = true then
      if (decide ((0 : Int) ≤ I y3.fst.fst.length - (1 : Int) ∧ I y3.fst.fst.length - (1 : Int) < I y3.fst.fst.length)) = true then
      if (decide ((I y3.fst.fst.length - (1 : Int)).toNat < y3.fst.fst.length)) = true then
      if (inR (I o.length + (1 : Int))) = true then
      if (!decide ((@List.getD Dop.Tok y3.fst.fst (I y3.fst.fst.length - (1 : Int)).toNat Dop.d4).at_ = I o.length + (1 : Int))) = true then
       (Tryd.m10).bind fun y7 =>
        some ((y7.fst.fst, ()), ())
      else
       (Tryd.m18 (o)).bind fun y7 =>
        if (y7.fst.fst) = true then
         (Tryd.m10).bind fun y9 =>
          some ((y9.fst.fst, ()), ())
        else
         if (!decide (t13 = t16)) = true then
          some ((false, ()), ())
         else
          if (!decide (I b0.length = I t14.length)) = true then
           some ((false, ()), ())
          else
           Tryd.m7_27 (b0) (t14) (I b0.length) ((0 : Int))
      else none
      else none
      else none
      else none
   else none := Env.cut_eq' (E := Tryd.m7.E) (f0 := 3000) (c := 16) (q := ⟨[[0, 0, 0, 0, 1, 0, 1, 1, 1, 1, 1, 1, 1], [0, 1, 0, 0, 1, 0, 1, 1, 1, 1, 1, 1, 1], [2, 0, 0, 1, 0, 1, 1, 1, 1, 1, 1, 1], [1, 2], [0, 1, 1, 1, 1, 1, 1, 1, 1]], [0, 11, 13, 14, 16, 97, 98, 99], 1, ⟨[.fd .str, .rw 0, .fd (.int .i64), .own 4 32, .fd (.int .i64), .rw 0, .fd (.int .i64), .fd (.int .i64)], [⟨0, 0, [.own 4 32], true⟩]⟩⟩) (by kernel_rfl) ((o, (), t13, t14, t16, (), t98, t99, ()), ((b0, ()), ())) (by kernel_rfl) (by kernel_rfl)
theorem Tryd.m7_27_eq (t11 : List (En.Dop.Tok)) (t14 : List (En.Dop.Tok)) (t164 : Int) (t165 : Int) : Tryd.m7_27 t11 t14 t164 t165 =
  if (decide (t165 < t164)) = true then
   if (decide ((0 : Int) ≤ t165 ∧ t165 < I t11.length)) = true then
   if (decide (t165.toNat < t11.length)) = true then
   if (decide ((0 : Int) ≤ t165 ∧ t165 < I t14.length)) = true then
   if (decide (t165.toNat < t14.length)) = true then
   if (inR (t165 + (1 : Int))) = true then
   Tryd.m7_27 (t11.set t165.toNat (Dop.Tok.mk (@List.getD Dop.Tok t11 t165.toNat Dop.d4).kind (@List.getD Dop.Tok t11 t165.toNat Dop.d4).text (@List.getD Dop.Tok t11 t165.toNat Dop.d4).n (0 : Int))) (t14.set t165.toNat (Dop.Tok.mk (@List.getD Dop.Tok t14 t165.toNat Dop.d4).kind (@List.getD Dop.Tok t14 t165.toNat Dop.d4).text (@List.getD Dop.Tok t14 t165.toNat Dop.d4).n (0 : Int))) (t164) (t165 + (1 : Int))
   else none
   else none
   else none
   else none
   else none
  else
   (Tryd.m13 (t11) (t14)).bind fun y3 =>
    if (y3.fst.fst) = true then
     (Tryd.m10).bind fun y5 =>
      some ((y5.fst.fst, ()), ())
    else
     some ((false, ()), ()) := Env.cut_eq' (E := Tryd.m7.E) (f0 := 3000) (c := 27) (q := ⟨[[0, 0, 0, 0, 1, 0, 1, 1, 1, 1, 1, 1, 1, 1, 1, 1], [0, 1, 0, 0, 1, 0, 1, 1, 1, 1, 1, 1, 1, 1, 1, 1], [2, 0, 0, 1, 0, 1, 1, 1, 1, 1, 1, 1, 1, 1, 1], [1, 4], [0, 1, 1, 1, 1, 1, 1, 1, 1, 1, 1, 1]], [11, 14, 164, 165], 0, ⟨[.own 4 32, .own 4 32, .fd (.int .i64), .fd (.int .i64)], []⟩⟩) (by kernel_rfl) ((t11, t14, t164, t165, ()), ()) (by kernel_rfl) (by kernel_rfl)

def Tryd.m8.p : Pln := ⟨[], 0, ⟨[.fd (.int .u8)], []⟩, ⟨[.fd .bool], []⟩, true, [], []⟩
noncomputable def Tryd.m8.E : Env En.Dop.D2 := envOf Tryd.prog 8 Tryd.tb [Tryd.m11.c, Tryd.m12.c, Tryd.m13.c, Tryd.m10.c] Tryd.m8.p
theorem Tryd.m8.ok : plnOk En.Dop.D2 Tryd.prog 8 Tryd.m8.p = true := by kernel_rfl
noncomputable def Tryd.m8.c : Ctr En.Dop.D2 := ⟨8, Tryd.m8.p.bn, Tryd.m8.p.sp, Tryd.m8.p.rs, Tryd.m8.p.flat, .opt (Tryd.m8.E.run 3000 Tryd.m8.p.sp)⟩
theorem Tryd.m8.holds : Tryd.m8.c.Holds Tryd.prog := fun_ctr 3000 Tryd.tbOk (hct_cons Tryd.m11.holds (hct_cons Tryd.m12.holds (hct_cons Tryd.m13.holds (hct_cons Tryd.m10.holds hct_nil)))) Tryd.m8.ok
noncomputable def Tryd.m8 (c : Int) : Option (Spec.D En.Dop.D2 ⟨[.fd .bool], []⟩) := Tryd.m8.E.run 3000 Tryd.m8.p.sp ((c, ()), ())
theorem Tryd.m8_eq (c : Int) : Tryd.m8 c =
  (Tryd.m11 (List.map (fun (x : Int) => (byX Dop.D2 (3 : Nat) x).toNat.toUInt8) (c :: @List.nil Int))).bind fun y2 =>
   (Tryd.m12 (List.map (fun (x : Int) => (byX Dop.D2 (3 : Nat) x).toNat.toUInt8) (c :: @List.nil Int))).bind fun y3 =>
    if (decide (I y2.fst.fst.length ≤ (2 : Int))) = true then
     (Tryd.m13 (y2.fst.fst) (y3.fst.fst)).bind fun y5 =>
      if (y5.fst.fst) = true then
       if (decide (y2.fst.snd.fst = y3.fst.snd.fst)) = true then
        if (decide (y2.fst.snd.snd.fst = y3.fst.snd.snd.fst)) = true then
         if (!decide (y2.fst.snd.snd.fst = (0 : Int))) = true then
          (Tryd.m10).bind fun y10 =>
           some ((y10.fst.fst, ()), ())
         else
          if (decide (I y2.fst.fst.length = (1 : Int))) = true then
           (Tryd.m10).bind fun y11 =>
            some ((y11.fst.fst, ()), ())
          else
           if (decide ((0 : Int) ≤ (0 : Int) ∧ (0 : Int) < I y2.fst.fst.length)) = true then
           if (decide (Int.toNat (0 : Int) < y2.fst.fst.length)) = true then
           if (decide ((@List.getD Dop.Tok y2.fst.fst (Int.toNat (0 : Int)) Dop.d4).text = List.map (fun (x : Int) => (byX Dop.D2 (3 : Nat) x).toNat.toUInt8) (c :: @List.nil Int))) = true then
            (Tryd.m10).bind fun y12 =>
             some ((y12.fst.fst, ()), ())
           else
            some ((false, ()), ())
           else none
           else none
        else
         some ((false, ()), ())
       else
        some ((false, ()), ())
      else
       some ((false, ()), ())
    else
     some ((false, ()), ()) := by kernel_rfl
end Go.Proofs
