/-
  Functions of the seat, lifted: plan, model, contract, equations. Written by a program (Lift) that ran the layer's evaluation; Lean checks each line.
-/
import Derived.Test.YtfonahhlkanabaaEn14
import Derived.Test.YtfonahhlkanabaaTab2
namespace Go.Proofs
open Go Go.En

def Try.m17.p : Pln := ⟨[(4, ⟨[[0, 0, 0, 0, 1, 0, 1, 1], [0, 1, 0, 0, 1, 0, 1, 1], [2, 0, 0, 1, 0, 1, 1], [1, 0], [0, 1, 1, 1]], [26, 27, 28], 0, ⟨[.fd (.sl 3), .fd (.int .i64), .fd (.int .i64)], []⟩⟩)], 0, ⟨[.st 4], []⟩, ⟨[.fd .bool], []⟩, true, [], []⟩
noncomputable def Try.m17.E : Env En.Dop.D7 := envOf Try.prog 17 Try.tb [] Try.m17.p
theorem Try.m17.ok : plnOk En.Dop.D7 Try.prog 17 Try.m17.p = true := by kernel_rfl
noncomputable def Try.m17.c : Ctr En.Dop.D7 := ⟨17, Try.m17.p.bn, Try.m17.p.sp, Try.m17.p.rs, Try.m17.p.flat, .opt (Try.m17.E.run 3000 Try.m17.p.sp)⟩
theorem Try.m17.holds : Try.m17.c.Holds Try.prog := fun_ctr 3000 Try.tbOk hct_nil Try.m17.ok
noncomputable def Try.m17 (f : En.Dop.Fnc) : Option (Spec.D En.Dop.D7 ⟨[.fd .bool], []⟩) := Try.m17.E.run 3000 Try.m17.p.sp ((f, ()), ())
noncomputable def Try.m17_4 (t26 : List (En.Dop.Ins)) (t27 : Int) (t28 : Int) : Option (Spec.D En.Dop.D7 ⟨[.fd .bool], []⟩) := Try.m17.E.cut 3000 4 ((t26, t27, t28, ()), ())
theorem Try.m17_eq (f : En.Dop.Fnc) : Try.m17 f =
  if (decide ((50 : Int) < I f.name.length)) = true then
   some ((false, ()), ())
  else
   if (decide ((60 : Int) < I f.code.length)) = true then
    some ((false, ()), ())
   else
    if (decide ((40 : Int) < f.regs)) = true then
     if (decide (f.regs ≤ (4096 : Int))) = true then
      some ((false, ()), ())
     else
      Try.m17_4 (f.code) (I f.code.length) ((0 : Int))
    else
     Try.m17_4 (f.code) (I f.code.length) ((0 : Int)) := by kernel_rfl
theorem Try.m17_4_eq (t26 : List (En.Dop.Ins)) (t27 : Int) (t28 : Int) : Try.m17_4 t26 t27 t28 =
  if (decide (t28 < t27)) = true then
   if (decide ((0 : Int) ≤ t28 ∧ t28 < I t26.length)) = true then
   if (decide ((50 : Int) < I (t26.getD t28.toNat Dop.d3).text.length)) = true then
    some ((false, ()), ())
   else
    if (inR (t28 + (1 : Int))) = true then
    Try.m17_4 (t26) (t27) (t28 + (1 : Int))
    else none
   else none
  else
   some ((true, ()), ()) := Env.cut_eq' (E := Try.m17.E) (f0 := 3000) (c := 4) (q := ⟨[[0, 0, 0, 0, 1, 0, 1, 1], [0, 1, 0, 0, 1, 0, 1, 1], [2, 0, 0, 1, 0, 1, 1], [1, 0], [0, 1, 1, 1]], [26, 27, 28], 0, ⟨[.fd (.sl 3), .fd (.int .i64), .fd (.int .i64)], []⟩⟩) (by kernel_rfl) ((t26, t27, t28, ()), ()) (by kernel_rfl) (by kernel_rfl)

def Try.m7.p : Pln := ⟨[(2, ⟨[[0, 0, 0, 0, 0, 1, 0, 1], [0, 1, 0, 0, 0, 1, 0, 1], [0, 1, 0, 0, 1, 0, 1], [2, 0, 0, 1, 0, 1], [1, 0], [0, 1, 1]], [1, 3], 1, ⟨[.al 0 0, .fd (.int .i64)], [⟨0, 25, [.st 6], false⟩]⟩⟩), (7, ⟨[[0, 0, 0, 0, 0, 1, 0, 1, 1], [0, 1, 0, 0, 0, 1, 0, 1, 1], [0, 1, 0, 0, 1, 0, 1, 1], [2, 0, 0, 1, 0, 1, 1], [1, 2], [0, 1, 1, 1]], [1, 4], 1, ⟨[.al 0 0, .fd (.int .i64)], [⟨0, 25, [.st 6], false⟩]⟩⟩)], 0, ⟨[.st 6], []⟩, ⟨[.fd .bool], []⟩, true, [], []⟩
noncomputable def Try.m7.E : Env En.Dop.D7 := envOf Try.prog 7 Try.tb [Try.m17.c] Try.m7.p
theorem Try.m7.ok : plnOk En.Dop.D7 Try.prog 7 Try.m7.p = true := by kernel_rfl
noncomputable def Try.m7.c : Ctr En.Dop.D7 := ⟨7, Try.m7.p.bn, Try.m7.p.sp, Try.m7.p.rs, Try.m7.p.flat, .opt (Try.m7.E.run 3000 Try.m7.p.sp)⟩
theorem Try.m7.holds : Try.m7.c.Holds Try.prog := fun_ctr 3000 Try.tbOk (hct_cons Try.m17.holds hct_nil) Try.m7.ok
noncomputable def Try.m7 (u : En.Dop.Unt) : Option (Spec.D En.Dop.D7 ⟨[.fd .bool], []⟩) := Try.m7.E.run 3000 Try.m7.p.sp ((u, ()), ())
noncomputable def Try.m7_2 (k : Int) (b0 : En.Dop.Unt) : Option (Spec.D En.Dop.D7 ⟨[.fd .bool], []⟩) := Try.m7.E.cut 3000 2 (((), k, ()), ((b0, ()), ()))
noncomputable def Try.m7_7 (k : Int) (b0 : En.Dop.Unt) : Option (Spec.D En.Dop.D7 ⟨[.fd .bool], []⟩) := Try.m7.E.cut 3000 7 (((), k, ()), ((b0, ()), ()))
theorem Try.m7_eq (u : En.Dop.Unt) : Try.m7 u =
  Try.m7_2 ((0 : Int)) (u) := by kernel_rfl
theorem Try.m7_2_eq (k : Int) (b0 : En.Dop.Unt) : Try.m7_2 k b0 =
  if (decide (k < I b0.funcs.length)) = true then
   if (decide (k ≤ (6 : Int))) = true then
    if (decide ((0 : Int) ≤ k ∧ k < I b0.funcs.length)) = true then
    (Try.m17 (b0.funcs.getD k.toNat Dop.d4)).bind fun y4 =>
     if (!y4.fst.fst) = true then
      some ((false, ()), ())
     else
      if (inR (k + (1 : Int))) = true then
      Try.m7_2 (k + (1 : Int)) (b0)
      else none
    else none
   else
    Try.m7_7 ((0 : Int)) (b0)
  else
   Try.m7_7 ((0 : Int)) (b0) := Env.cut_eq' (E := Try.m7.E) (f0 := 3000) (c := 2) (q := ⟨[[0, 0, 0, 0, 0, 1, 0, 1], [0, 1, 0, 0, 0, 1, 0, 1], [0, 1, 0, 0, 1, 0, 1], [2, 0, 0, 1, 0, 1], [1, 0], [0, 1, 1]], [1, 3], 1, ⟨[.al 0 0, .fd (.int .i64)], [⟨0, 25, [.st 6], false⟩]⟩⟩) (by kernel_rfl) (((), k, ()), ((b0, ()), ())) (by kernel_rfl) (by kernel_rfl)
theorem Try.m7_7_eq (k : Int) (b0 : En.Dop.Unt) : Try.m7_7 k b0 =
  if (decide (k < I b0.globals.length)) = true then
   if (decide (k ≤ (10 : Int))) = true then
    if (decide ((0 : Int) ≤ k ∧ k < I b0.globals.length)) = true then
    if (decide ((50 : Int) < I (b0.globals.getD k.toNat Dop.d5).name.length)) = true then
     some ((false, ()), ())
    else
     if (inR (k + (1 : Int))) = true then
     Try.m7_7 (k + (1 : Int)) (b0)
     else none
    else none
   else
    if (decide (I b0.funcs.length ≤ (6 : Int))) = true then
     some ((decide (I b0.globals.length ≤ (10 : Int)), ()), ())
    else
     some ((false, ()), ())
  else
   if (decide (I b0.funcs.length ≤ (6 : Int))) = true then
    some ((decide (I b0.globals.length ≤ (10 : Int)), ()), ())
   else
    some ((false, ()), ()) := Env.cut_eq' (E := Try.m7.E) (f0 := 3000) (c := 7) (q := ⟨[[0, 0, 0, 0, 0, 1, 0, 1, 1], [0, 1, 0, 0, 0, 1, 0, 1, 1], [0, 1, 0, 0, 1, 0, 1, 1], [2, 0, 0, 1, 0, 1, 1], [1, 2], [0, 1, 1, 1]], [1, 4], 1, ⟨[.al 0 0, .fd (.int .i64)], [⟨0, 25, [.st 6], false⟩]⟩⟩) (by kernel_rfl) (((), k, ()), ((b0, ()), ())) (by kernel_rfl) (by kernel_rfl)

def Try.m18.p : Pln := ⟨[], 0, ⟨[.fd (.int .i64)], []⟩, ⟨[.st 3], []⟩, true, [], []⟩
noncomputable def Try.m18.E : Env En.Dop.D7 := envOf Try.prog 18 Try.tb [] Try.m18.p
theorem Try.m18.ok : plnOk En.Dop.D7 Try.prog 18 Try.m18.p = true := by kernel_rfl
noncomputable def Try.m18.c : Ctr En.Dop.D7 := ⟨18, Try.m18.p.bn, Try.m18.p.sp, Try.m18.p.rs, Try.m18.p.flat, .opt (Try.m18.E.run 3000 Try.m18.p.sp)⟩
theorem Try.m18.holds : Try.m18.c.Holds Try.prog := fun_ctr 3000 Try.tbOk hct_nil Try.m18.ok
noncomputable def Try.m18 (kind : Int) : Option (Spec.D En.Dop.D7 ⟨[.st 3], []⟩) := Try.m18.E.run 3000 Try.m18.p.sp ((kind, ()), ())
theorem Try.m18_eq (kind : Int) : Try.m18 kind =
  some ((Dop.Ins.mk kind (0 : Int) (-1 : Int) (0 : Int) (0 : Int) (0 : Int) (@List.nil UInt8) (0 : Int) (0 : Int) (0 : Int) (0 : Int) (0 : Int) (0 : Int) (0 : Int) (-1 : Int), ()), ()) := by kernel_rfl

def Try.m25.p : Pln := ⟨[], 1, ⟨[.st 4, .al 0 0], [⟨0, 9, [.st 1], false⟩]⟩, ⟨[.fd .bool], [⟨0, 9, [.fd .str], false⟩]⟩, true, [], []⟩
noncomputable def Try.m25.E : Env En.Dop.D7 := envOf Try.prog 25 Try.tb [] Try.m25.p
theorem Try.m25.ok : plnOk En.Dop.D7 Try.prog 25 Try.m25.p = true := by kernel_rfl
noncomputable def Try.m25.c : Ctr En.Dop.D7 := ⟨25, Try.m25.p.bn, Try.m25.p.sp, Try.m25.p.rs, Try.m25.p.flat, .opt (Try.m25.E.run 3000 Try.m25.p.sp)⟩
theorem Try.m25.holds : Try.m25.c.Holds Try.prog := fun_ctr 3000 Try.tbOk hct_nil Try.m25.ok
noncomputable def Try.m25 (f : En.Dop.Fnc) (b0 : List UInt8) : Option (Spec.D En.Dop.D7 ⟨[.fd .bool], [⟨0, 9, [.fd .str], false⟩]⟩) := Try.m25.E.run 3000 Try.m25.p.sp ((f, (), ()), ((b0, ()), ()))
theorem Try.m25_eq (f : En.Dop.Fnc) (b0 : List UInt8) : Try.m25 f b0 =
  some ((decide (f.name = b0), ()), ((b0, ()), ())) := by kernel_rfl

def Try.m24_25.p : Pln := ⟨[(2, ⟨[[0, 0, 0, 0, 1, 0, 1], [0, 1, 0, 0, 1, 0, 1], [2, 0, 0, 1, 0, 1], [1, 0], [0, 1, 1]], [0, 1, 7, 8], 1, ⟨[.fd (.sl 4), .fn 25 [(0, 0)], .fd (.int .i64), .fd (.int .i64)], [⟨0, 9, [.fd .str], false⟩]⟩⟩)], 1, ⟨[.fd (.sl 4), .fn 25 [(0, 0)]], [⟨0, 9, [.st 1], false⟩]⟩, ⟨[.fd (.int .i64)], [⟨0, 9, [.fd .str], false⟩]⟩, true, [], []⟩
noncomputable def Try.m24_25.E : Env En.Dop.D7 := envOf Try.prog 24 Try.tb [Try.m25.c] Try.m24_25.p
theorem Try.m24_25.ok : plnOk En.Dop.D7 Try.prog 24 Try.m24_25.p = true := by kernel_rfl
noncomputable def Try.m24_25.c : Ctr En.Dop.D7 := ⟨24, Try.m24_25.p.bn, Try.m24_25.p.sp, Try.m24_25.p.rs, Try.m24_25.p.flat, .opt (Try.m24_25.E.run 3000 Try.m24_25.p.sp)⟩
theorem Try.m24_25.holds : Try.m24_25.c.Holds Try.prog := fun_ctr 3000 Try.tbOk (hct_cons Try.m25.holds hct_nil) Try.m24_25.ok
noncomputable def Try.m24_25 (s : List (En.Dop.Fnc)) (b0 : List UInt8) : Option (Spec.D En.Dop.D7 ⟨[.fd (.int .i64)], [⟨0, 9, [.fd .str], false⟩]⟩) := Try.m24_25.E.run 3000 Try.m24_25.p.sp ((s, (), ()), ((b0, ()), ()))
noncomputable def Try.m24_25_2 (s : List (En.Dop.Fnc)) (t7 : Int) (t8 : Int) (b0 : List UInt8) : Option (Spec.D En.Dop.D7 ⟨[.fd (.int .i64)], [⟨0, 9, [.fd .str], false⟩]⟩) := Try.m24_25.E.cut 3000 2 ((s, (), t7, t8, ()), ((b0, ()), ()))
theorem Try.m24_25_eq (s : List (En.Dop.Fnc)) (b0 : List UInt8) : Try.m24_25 s b0 =
  Try.m24_25_2 (s) (I s.length) ((0 : Int)) (b0) := by kernel_rfl
theorem Try.m24_25_2_eq (s : List (En.Dop.Fnc)) (t7 : Int) (t8 : Int) (b0 : List UInt8) : Try.m24_25_2 s t7 t8 b0 =
  if (decide (t8 < t7)) = true then
   if (decide ((0 : Int) ≤ t8 ∧ t8 < I s.length)) = true then
   (Try.m25 (s.getD t8.toNat Dop.d4) (b0)).bind fun y3 =>
    if (y3.fst.fst) = true then
     some ((t8, ()), ((y3.snd.fst.fst, ()), ()))
    else
     if (inR (t8 + (1 : Int))) = true then
     Try.m24_25_2 (s) (t7) (t8 + (1 : Int)) (y3.snd.fst.fst)
     else none
   else none
  else
   some (((-1 : Int), ()), ((b0, ()), ())) := Env.cut_eq' (E := Try.m24_25.E) (f0 := 3000) (c := 2) (q := ⟨[[0, 0, 0, 0, 1, 0, 1], [0, 1, 0, 0, 1, 0, 1], [2, 0, 0, 1, 0, 1], [1, 0], [0, 1, 1]], [0, 1, 7, 8], 1, ⟨[.fd (.sl 4), .fn 25 [(0, 0)], .fd (.int .i64), .fd (.int .i64)], [⟨0, 9, [.fd .str], false⟩]⟩⟩) (by kernel_rfl) ((s, (), t7, t8, ()), ((b0, ()), ())) (by kernel_rfl) (by kernel_rfl)

def Try.m13.p : Pln := ⟨[], 0, ⟨[.st 6, .fd .str], []⟩, ⟨[.fd (.int .i64)], []⟩, true, [], []⟩
noncomputable def Try.m13.E : Env En.Dop.D7 := envOf Try.prog 13 Try.tb [Try.m24_25.c] Try.m13.p
theorem Try.m13.ok : plnOk En.Dop.D7 Try.prog 13 Try.m13.p = true := by kernel_rfl
noncomputable def Try.m13.c : Ctr En.Dop.D7 := ⟨13, Try.m13.p.bn, Try.m13.p.sp, Try.m13.p.rs, Try.m13.p.flat, .opt (Try.m13.E.run 3000 Try.m13.p.sp)⟩
theorem Try.m13.holds : Try.m13.c.Holds Try.prog := fun_ctr 3000 Try.tbOk (hct_cons Try.m24_25.holds hct_nil) Try.m13.ok
noncomputable def Try.m13 (u : En.Dop.Unt) (name : List UInt8) : Option (Spec.D En.Dop.D7 ⟨[.fd (.int .i64)], []⟩) := Try.m13.E.run 3000 Try.m13.p.sp ((u, name, ()), ())
theorem Try.m13_eq (u : En.Dop.Unt) (name : List UInt8) : Try.m13 u name =
  (Try.m24_25 (u.funcs) (name)).bind fun y2 =>
   some ((y2.fst.fst, ()), ()) := by kernel_rfl

def Try.m39.p : Pln := ⟨[], 0, ⟨[.fd (.int .i64)], []⟩, ⟨[.fd (.int .i64)], []⟩, true, [], []⟩
noncomputable def Try.m39.E : Env En.Dop.D7 := envOf Try.prog 39 Try.tb [] Try.m39.p
theorem Try.m39.ok : plnOk En.Dop.D7 Try.prog 39 Try.m39.p = true := by kernel_rfl
noncomputable def Try.m39.c : Ctr En.Dop.D7 := ⟨39, Try.m39.p.bn, Try.m39.p.sp, Try.m39.p.rs, Try.m39.p.flat, .opt (Try.m39.E.run 3000 Try.m39.p.sp)⟩
theorem Try.m39.holds : Try.m39.c.Holds Try.prog := fun_ctr 3000 Try.tbOk hct_nil Try.m39.ok
noncomputable def Try.m39 (n : Int) : Option (Spec.D En.Dop.D7 ⟨[.fd (.int .i64)], []⟩) := Try.m39.E.run 3000 Try.m39.p.sp ((n, ()), ())
theorem Try.m39_eq (n : Int) : Try.m39 n =
  if (inR (IntKind.i32.wrap (IntKind.u32.wrap n))) = true then
  some ((IntKind.i32.wrap (IntKind.u32.wrap n), ()), ())
  else none := by kernel_rfl

def Try.m22.p : Pln := ⟨[], 0, ⟨[.fd (.int .i64)], []⟩, ⟨[.fd .bool], []⟩, true, [], []⟩
noncomputable def Try.m22.E : Env En.Dop.D7 := envOf Try.prog 22 Try.tb [Try.m39.c] Try.m22.p
theorem Try.m22.ok : plnOk En.Dop.D7 Try.prog 22 Try.m22.p = true := by kernel_rfl
noncomputable def Try.m22.c : Ctr En.Dop.D7 := ⟨22, Try.m22.p.bn, Try.m22.p.sp, Try.m22.p.rs, Try.m22.p.flat, .opt (Try.m22.E.run 3000 Try.m22.p.sp)⟩
theorem Try.m22.holds : Try.m22.c.Holds Try.prog := fun_ctr 3000 Try.tbOk (hct_cons Try.m39.holds hct_nil) Try.m22.ok
noncomputable def Try.m22 (n : Int) : Option (Spec.D En.Dop.D7 ⟨[.fd .bool], []⟩) := Try.m22.E.run 3000 Try.m22.p.sp ((n, ()), ())
theorem Try.m22_eq (n : Int) : Try.m22 n =
  (Try.m39 (n)).bind fun y2 =>
   some ((decide (y2.fst.fst = n), ()), ()) := by kernel_rfl

def Try.m43.p : Pln := ⟨[(9, ⟨[[0, 0, 0, 1, 1, 0, 1, 0, 1], [0, 1, 0, 1, 1, 0, 1, 0, 1], [0, 1, 1, 1, 0, 1, 0, 1], [1, 0], [0, 1, 1]], [4], 0, ⟨[.fd (.int .i64)], []⟩⟩)], 0, ⟨[.fd (.int .i64)], []⟩, ⟨[.fd .bool, .fd .bool], []⟩, true, [], []⟩
noncomputable def Try.m43.E : Env En.Dop.D7 := envOf Try.prog 43 Try.tb [] Try.m43.p
theorem Try.m43.ok : plnOk En.Dop.D7 Try.prog 43 Try.m43.p = true := by kernel_rfl
noncomputable def Try.m43.c : Ctr En.Dop.D7 := ⟨43, Try.m43.p.bn, Try.m43.p.sp, Try.m43.p.rs, Try.m43.p.flat, .opt (Try.m43.E.run 3000 Try.m43.p.sp)⟩
theorem Try.m43.holds : Try.m43.c.Holds Try.prog := fun_ctr 3000 Try.tbOk hct_nil Try.m43.ok
noncomputable def Try.m43 (kind : Int) : Option (Spec.D En.Dop.D7 ⟨[.fd .bool, .fd .bool], []⟩) := Try.m43.E.run 3000 Try.m43.p.sp ((kind, ()), ())
noncomputable def Try.m43_9 (t4 : Int) : Option (Spec.D En.Dop.D7 ⟨[.fd .bool, .fd .bool], []⟩) := Try.m43.E.cut 3000 9 ((t4, ()), ())
theorem Try.m43_eq (kind : Int) : Try.m43 kind =
  if (decide (kind = (2 : Int))) = true then
   if (decide (kind = (2 : Int))) = true then
    some ((true, (false, ())), ())
   else
    Try.m43_9 (kind)
  else
   if (decide (kind = (4 : Int))) = true then
    if (decide (kind = (4 : Int))) = true then
     some ((true, (false, ())), ())
    else
     Try.m43_9 (kind)
   else
    if (decide (kind = (6 : Int))) = true then
     if (decide (kind = (6 : Int))) = true then
      some ((true, (false, ())), ())
     else
      Try.m43_9 (kind)
    else
     if (decide (kind = (10 : Int))) = true then
      if (decide (kind = (10 : Int))) = true then
       some ((true, (false, ())), ())
      else
       Try.m43_9 (kind)
     else
      if (decide (kind = (12 : Int))) = true then
       if (decide (kind = (12 : Int))) = true then
        some ((true, (false, ())), ())
       else
        Try.m43_9 (kind)
      else
       if (decide (kind = (13 : Int))) = true then
        some ((true, (false, ())), ())
       else
        Try.m43_9 (kind) := by kernel_rfl
theorem Try.m43_9_eq (t4 : Int) : Try.m43_9 t4 =
  if (decide (t4 = (3 : Int))) = true then
   if (decide (t4 = (3 : Int))) = true then
    some ((true, (true, ())), ())
   else
    some ((false, (false, ())), ())
  else
   if (decide (t4 = (7 : Int))) = true then
    some ((true, (true, ())), ())
   else
    some ((false, (false, ())), ()) := Env.cut_eq' (E := Try.m43.E) (f0 := 3000) (c := 9) (q := ⟨[[0, 0, 0, 1, 1, 0, 1, 0, 1], [0, 1, 0, 1, 1, 0, 1, 0, 1], [0, 1, 1, 1, 0, 1, 0, 1], [1, 0], [0, 1, 1]], [4], 0, ⟨[.fd (.int .i64)], []⟩⟩) (by kernel_rfl) ((t4, ()), ()) (by kernel_rfl) (by kernel_rfl)

def Try.m29.p : Pln := ⟨[], 0, ⟨[.fd (.int .i64)], []⟩, ⟨[.fd .bool], []⟩, true, [], []⟩
noncomputable def Try.m29.E : Env En.Dop.D7 := envOf Try.prog 29 Try.tb [] Try.m29.p
theorem Try.m29.ok : plnOk En.Dop.D7 Try.prog 29 Try.m29.p = true := by kernel_rfl
noncomputable def Try.m29.c : Ctr En.Dop.D7 := ⟨29, Try.m29.p.bn, Try.m29.p.sp, Try.m29.p.rs, Try.m29.p.flat, .opt (Try.m29.E.run 3000 Try.m29.p.sp)⟩
theorem Try.m29.holds : Try.m29.c.Holds Try.prog := fun_ctr 3000 Try.tbOk hct_nil Try.m29.ok
noncomputable def Try.m29 (kind : Int) : Option (Spec.D En.Dop.D7 ⟨[.fd .bool], []⟩) := Try.m29.E.run 3000 Try.m29.p.sp ((kind, ()), ())
theorem Try.m29_eq (kind : Int) : Try.m29 kind =
  if (decide ((1 : Int) ≤ kind)) = true then
   if (decide (kind ≤ (6 : Int))) = true then
    some ((true, ()), ())
   else
    if (decide (kind = (8 : Int))) = true then
     some ((true, ()), ())
    else
     some ((decide (kind = (9 : Int)), ()), ())
  else
   if (decide (kind = (8 : Int))) = true then
    some ((true, ()), ())
   else
    some ((decide (kind = (9 : Int)), ()), ()) := by kernel_rfl

def Try.m32.p : Pln := ⟨[(9, ⟨[[0, 0, 0, 1, 1, 1, 1, 1, 1], [0, 1, 0, 1, 1, 1, 1, 1, 1], [0, 1, 1, 1, 1, 1, 1, 1]], [1, 2, 5], 3, ⟨[.al 0 0, .al 1 0, .al 2 0], [⟨0, 46, [.st 3], false⟩, ⟨1, 46, [.st 3], false⟩, ⟨2, 46, [.st 3], false⟩]⟩⟩), (16, ⟨[[0, 0, 1, 1, 1, 1, 0, 1, 0, 1, 1, 1, 1, 1, 1], [0, 1, 1, 1, 1, 1, 0, 1, 0, 1, 1, 1, 1, 1, 1], [1, 0], [0, 1, 1, 1, 1, 1, 1, 1]], [1, 2, 5, 25], 3, ⟨[.al 0 0, .al 1 0, .al 2 0, .fd (.int .i64)], [⟨0, 46, [.st 3], false⟩, ⟨1, 46, [.st 3], false⟩, ⟨2, 46, [.st 3], false⟩]⟩⟩), (18, ⟨[[0, 0, 0, 0, 1, 0, 0, 1, 1, 1, 1, 1, 0, 1, 0, 1, 1, 1, 1, 1, 1], [0, 1, 0, 0, 1, 0, 0, 1, 1, 1, 1, 1, 0, 1, 0, 1, 1, 1, 1, 1, 1], [2, 0, 0, 1, 0, 0, 1, 1, 1, 1, 1, 0, 1, 0, 1, 1, 1, 1, 1, 1], [1, 1], [0, 1, 0, 1, 1, 1, 1, 1, 0, 1, 0, 1, 1, 1, 1, 1, 1], [1, 0], [0, 1, 1, 1, 1, 1, 1, 1]], [1, 2, 5, 39, 40], 3, ⟨[.al 0 0, .al 1 0, .al 2 0, .fd (.int .i64), .fd (.int .i64)], [⟨0, 46, [.st 3], false⟩, ⟨1, 46, [.st 3], false⟩, ⟨2, 46, [.st 3], false⟩]⟩⟩)], 0, ⟨[.st 3], []⟩, ⟨[.st 3], []⟩, true, [], []⟩
noncomputable def Try.m32.E : Env En.Dop.D7 := envOf Try.prog 32 Try.tb [Try.m43.c, Try.m18.c, Try.m29.c] Try.m32.p
theorem Try.m32.ok : plnOk En.Dop.D7 Try.prog 32 Try.m32.p = true := by kernel_rfl
noncomputable def Try.m32.c : Ctr En.Dop.D7 := ⟨32, Try.m32.p.bn, Try.m32.p.sp, Try.m32.p.rs, Try.m32.p.flat, .opt (Try.m32.E.run 3000 Try.m32.p.sp)⟩
theorem Try.m32.holds : Try.m32.c.Holds Try.prog := fun_ctr 3000 Try.tbOk (hct_cons Try.m43.holds (hct_cons Try.m18.holds (hct_cons Try.m29.holds hct_nil))) Try.m32.ok
noncomputable def Try.m32 (i : En.Dop.Ins) : Option (Spec.D En.Dop.D7 ⟨[.st 3], []⟩) := Try.m32.E.run 3000 Try.m32.p.sp ((i, ()), ())
noncomputable def Try.m32_9 (b0 : En.Dop.Ins) (b1 : En.Dop.Ins) (b2 : En.Dop.Ins) : Option (Spec.D En.Dop.D7 ⟨[.st 3], []⟩) := Try.m32.E.cut 3000 9 (((), (), (), ()), ((b0, ()), (b1, ()), (b2, ()), ()))
noncomputable def Try.m32_16 (t25 : Int) (b0 : En.Dop.Ins) (b1 : En.Dop.Ins) (b2 : En.Dop.Ins) : Option (Spec.D En.Dop.D7 ⟨[.st 3], []⟩) := Try.m32.E.cut 3000 16 (((), (), (), t25, ()), ((b0, ()), (b1, ()), (b2, ()), ()))
noncomputable def Try.m32_18 (t39 : Int) (t40 : Int) (b0 : En.Dop.Ins) (b1 : En.Dop.Ins) (b2 : En.Dop.Ins) : Option (Spec.D En.Dop.D7 ⟨[.st 3], []⟩) := Try.m32.E.cut 3000 18 (((), (), (), t39, t40, ()), ((b0, ()), (b1, ()), (b2, ()), ()))
theorem Try.m32_eq (i : En.Dop.Ins) : Try.m32 i =
  (Try.m43 (i.kind)).bind fun y2 =>
   (Try.m18 (i.kind)).bind fun y3 =>
    (Try.m29 (i.kind)).bind fun y4 =>
     if (y4.fst.fst) = true then
      if (y2.fst.fst) = true then
       if (y2.fst.snd.fst) = true then
        Try.m32_9 (Dop.Ins.mk i.kind i.op (-1 : Int) (0 : Int) (0 : Int) i.n i.text i.args0 i.args1 i.args2 i.args3 i.args4 i.args5 i.to_ i.else_) (Dop.Ins.mk (0 : Int) (0 : Int) (0 : Int) (0 : Int) (0 : Int) (0 : Int) (@List.nil UInt8) (0 : Int) (0 : Int) (0 : Int) (0 : Int) (0 : Int) (0 : Int) (0 : Int) (0 : Int)) (y3.fst.fst)
       else
        Try.m32_9 (Dop.Ins.mk i.kind i.op (-1 : Int) (0 : Int) i.b i.n i.text i.args0 i.args1 i.args2 i.args3 i.args4 i.args5 i.to_ i.else_) (Dop.Ins.mk (0 : Int) (0 : Int) (0 : Int) (0 : Int) (0 : Int) (0 : Int) (@List.nil UInt8) (0 : Int) (0 : Int) (0 : Int) (0 : Int) (0 : Int) (0 : Int) (0 : Int) (0 : Int)) (y3.fst.fst)
      else
       if (y2.fst.snd.fst) = true then
        Try.m32_9 (Dop.Ins.mk i.kind i.op (-1 : Int) i.a (0 : Int) i.n i.text i.args0 i.args1 i.args2 i.args3 i.args4 i.args5 i.to_ i.else_) (Dop.Ins.mk (0 : Int) (0 : Int) (0 : Int) (0 : Int) (0 : Int) (0 : Int) (@List.nil UInt8) (0 : Int) (0 : Int) (0 : Int) (0 : Int) (0 : Int) (0 : Int) (0 : Int) (0 : Int)) (y3.fst.fst)
       else
        Try.m32_9 (Dop.Ins.mk i.kind i.op (-1 : Int) i.a i.b i.n i.text i.args0 i.args1 i.args2 i.args3 i.args4 i.args5 i.to_ i.else_) (Dop.Ins.mk (0 : Int) (0 : Int) (0 : Int) (0 : Int) (0 : Int) (0 : Int) (@List.nil UInt8) (0 : Int) (0 : Int) (0 : Int) (0 : Int) (0 : Int) (0 : Int) (0 : Int) (0 : Int)) (y3.fst.fst)
     else
      if (y2.fst.fst) = true then
       if (y2.fst.snd.fst) = true then
        Try.m32_9 (Dop.Ins.mk i.kind i.op i.dst (0 : Int) (0 : Int) i.n i.text i.args0 i.args1 i.args2 i.args3 i.args4 i.args5 i.to_ i.else_) (Dop.Ins.mk (0 : Int) (0 : Int) (0 : Int) (0 : Int) (0 : Int) (0 : Int) (@List.nil UInt8) (0 : Int) (0 : Int) (0 : Int) (0 : Int) (0 : Int) (0 : Int) (0 : Int) (0 : Int)) (y3.fst.fst)
       else
        Try.m32_9 (Dop.Ins.mk i.kind i.op i.dst (0 : Int) i.b i.n i.text i.args0 i.args1 i.args2 i.args3 i.args4 i.args5 i.to_ i.else_) (Dop.Ins.mk (0 : Int) (0 : Int) (0 : Int) (0 : Int) (0 : Int) (0 : Int) (@List.nil UInt8) (0 : Int) (0 : Int) (0 : Int) (0 : Int) (0 : Int) (0 : Int) (0 : Int) (0 : Int)) (y3.fst.fst)
      else
       if (y2.fst.snd.fst) = true then
        Try.m32_9 (Dop.Ins.mk i.kind i.op i.dst i.a (0 : Int) i.n i.text i.args0 i.args1 i.args2 i.args3 i.args4 i.args5 i.to_ i.else_) (Dop.Ins.mk (0 : Int) (0 : Int) (0 : Int) (0 : Int) (0 : Int) (0 : Int) (@List.nil UInt8) (0 : Int) (0 : Int) (0 : Int) (0 : Int) (0 : Int) (0 : Int) (0 : Int) (0 : Int)) (y3.fst.fst)
       else
        Try.m32_9 (i) (Dop.Ins.mk (0 : Int) (0 : Int) (0 : Int) (0 : Int) (0 : Int) (0 : Int) (@List.nil UInt8) (0 : Int) (0 : Int) (0 : Int) (0 : Int) (0 : Int) (0 : Int) (0 : Int) (0 : Int)) (y3.fst.fst) := by kernel_rfl
theorem Try.m32_9_eq (b0 : En.Dop.Ins) (b1 : En.Dop.Ins) (b2 : En.Dop.Ins) : Try.m32_9 b0 b1 b2 =
  if (decide (b0.kind = (1 : Int))) = true then
   if (decide (b0.kind = (1 : Int))) = true then
    if (!eqSs (List.take (15 : Nat) (List.drop (0 : Nat) (spl (SV.v (Value.int IntKind.i64 b0.kind) :: SV.v (Value.int IntKind.i64 b0.op) :: SV.v (Value.int IntKind.i64 b0.dst) :: SV.v (Value.int IntKind.i64 b0.a) :: SV.v (Value.int IntKind.i64 b0.b) :: SV.v (Value.int IntKind.i64 b0.n) :: SV.v (Value.string (ByteArray.mk (Array.mk b0.text))) :: SV.v (Value.int IntKind.i64 b0.args0) :: SV.v (Value.int IntKind.i64 b0.args1) :: SV.v (Value.int IntKind.i64 b0.args2) :: SV.v (Value.int IntKind.i64 b0.args3) :: SV.v (Value.int IntKind.i64 b0.args4) :: SV.v (Value.int IntKind.i64 b0.args5) :: SV.v (Value.int IntKind.i64 b0.to_) :: SV.v (Value.int IntKind.i64 b0.else_) :: @List.nil SV ++ @List.nil SV) ((0 : Nat) + (5 : Nat)) (SV.v (Value.int IntKind.i64 (0 : Int)) :: @List.nil SV)))) (List.take (15 : Nat) (List.drop (0 : Nat) (SV.v (Value.int IntKind.i64 b2.kind) :: SV.v (Value.int IntKind.i64 b2.op) :: SV.v (Value.int IntKind.i64 b2.dst) :: SV.v (Value.int IntKind.i64 b2.a) :: SV.v (Value.int IntKind.i64 b2.b) :: SV.v (Value.int IntKind.i64 b2.n) :: SV.v (Value.string (ByteArray.mk (Array.mk b2.text))) :: SV.v (Value.int IntKind.i64 b2.args0) :: SV.v (Value.int IntKind.i64 b2.args1) :: SV.v (Value.int IntKind.i64 b2.args2) :: SV.v (Value.int IntKind.i64 b2.args3) :: SV.v (Value.int IntKind.i64 b2.args4) :: SV.v (Value.int IntKind.i64 b2.args5) :: SV.v (Value.int IntKind.i64 b2.to_) :: SV.v (Value.int IntKind.i64 b2.else_) :: @List.nil SV ++ @List.nil SV)))) = true then
     some ((Dop.Ins.mk (0 : Int) b2.op b2.dst b2.a b2.b b2.n b2.text b2.args0 b2.args1 b2.args2 b2.args3 b2.args4 b2.args5 b2.to_ b2.else_, ()), ())
    else
     some ((b2, ()), ())
   else
    if (decide (b0.kind = (2 : Int))) = true then
     if (decide (b0.kind = (2 : Int))) = true then
      if (!eqSs (List.take (15 : Nat) (List.drop (0 : Nat) (spl (SV.v (Value.int IntKind.i64 b0.kind) :: SV.v (Value.int IntKind.i64 b0.op) :: SV.v (Value.int IntKind.i64 b0.dst) :: SV.v (Value.int IntKind.i64 b0.a) :: SV.v (Value.int IntKind.i64 b0.b) :: SV.v (Value.int IntKind.i64 b0.n) :: SV.v (Value.string (ByteArray.mk (Array.mk b0.text))) :: SV.v (Value.int IntKind.i64 b0.args0) :: SV.v (Value.int IntKind.i64 b0.args1) :: SV.v (Value.int IntKind.i64 b0.args2) :: SV.v (Value.int IntKind.i64 b0.args3) :: SV.v (Value.int IntKind.i64 b0.args4) :: SV.v (Value.int IntKind.i64 b0.args5) :: SV.v (Value.int IntKind.i64 b0.to_) :: SV.v (Value.int IntKind.i64 b0.else_) :: @List.nil SV ++ @List.nil SV) ((0 : Nat) + (1 : Nat)) (SV.v (Value.int IntKind.i64 (0 : Int)) :: @List.nil SV)))) (List.take (15 : Nat) (List.drop (0 : Nat) (SV.v (Value.int IntKind.i64 b2.kind) :: SV.v (Value.int IntKind.i64 b2.op) :: SV.v (Value.int IntKind.i64 b2.dst) :: SV.v (Value.int IntKind.i64 b2.a) :: SV.v (Value.int IntKind.i64 b2.b) :: SV.v (Value.int IntKind.i64 b2.n) :: SV.v (Value.string (ByteArray.mk (Array.mk b2.text))) :: SV.v (Value.int IntKind.i64 b2.args0) :: SV.v (Value.int IntKind.i64 b2.args1) :: SV.v (Value.int IntKind.i64 b2.args2) :: SV.v (Value.int IntKind.i64 b2.args3) :: SV.v (Value.int IntKind.i64 b2.args4) :: SV.v (Value.int IntKind.i64 b2.args5) :: SV.v (Value.int IntKind.i64 b2.to_) :: SV.v (Value.int IntKind.i64 b2.else_) :: @List.nil SV ++ @List.nil SV)))) = true then
       some ((Dop.Ins.mk (0 : Int) b2.op b2.dst b2.a b2.b b2.n b2.text b2.args0 b2.args1 b2.args2 b2.args3 b2.args4 b2.args5 b2.to_ b2.else_, ()), ())
      else
       some ((b2, ()), ())
     else
      Try.m32_16 (b0.kind) (b0) (b1) (b2)
    else
     if (decide (b0.kind = (3 : Int))) = true then
      if (!eqSs (List.take (15 : Nat) (List.drop (0 : Nat) (spl (SV.v (Value.int IntKind.i64 b0.kind) :: SV.v (Value.int IntKind.i64 b0.op) :: SV.v (Value.int IntKind.i64 b0.dst) :: SV.v (Value.int IntKind.i64 b0.a) :: SV.v (Value.int IntKind.i64 b0.b) :: SV.v (Value.int IntKind.i64 b0.n) :: SV.v (Value.string (ByteArray.mk (Array.mk b0.text))) :: SV.v (Value.int IntKind.i64 b0.args0) :: SV.v (Value.int IntKind.i64 b0.args1) :: SV.v (Value.int IntKind.i64 b0.args2) :: SV.v (Value.int IntKind.i64 b0.args3) :: SV.v (Value.int IntKind.i64 b0.args4) :: SV.v (Value.int IntKind.i64 b0.args5) :: SV.v (Value.int IntKind.i64 b0.to_) :: SV.v (Value.int IntKind.i64 b0.else_) :: @List.nil SV ++ @List.nil SV) ((0 : Nat) + (1 : Nat)) (SV.v (Value.int IntKind.i64 (0 : Int)) :: @List.nil SV)))) (List.take (15 : Nat) (List.drop (0 : Nat) (SV.v (Value.int IntKind.i64 b2.kind) :: SV.v (Value.int IntKind.i64 b2.op) :: SV.v (Value.int IntKind.i64 b2.dst) :: SV.v (Value.int IntKind.i64 b2.a) :: SV.v (Value.int IntKind.i64 b2.b) :: SV.v (Value.int IntKind.i64 b2.n) :: SV.v (Value.string (ByteArray.mk (Array.mk b2.text))) :: SV.v (Value.int IntKind.i64 b2.args0) :: SV.v (Value.int IntKind.i64 b2.args1) :: SV.v (Value.int IntKind.i64 b2.args2) :: SV.v (Value.int IntKind.i64 b2.args3) :: SV.v (Value.int IntKind.i64 b2.args4) :: SV.v (Value.int IntKind.i64 b2.args5) :: SV.v (Value.int IntKind.i64 b2.to_) :: SV.v (Value.int IntKind.i64 b2.else_) :: @List.nil SV ++ @List.nil SV)))) = true then
       some ((Dop.Ins.mk (0 : Int) b2.op b2.dst b2.a b2.b b2.n b2.text b2.args0 b2.args1 b2.args2 b2.args3 b2.args4 b2.args5 b2.to_ b2.else_, ()), ())
      else
       some ((b2, ()), ())
     else
      Try.m32_16 (b0.kind) (b0) (b1) (b2)
  else
   if (decide (b0.kind = (5 : Int))) = true then
    if (!eqSs (List.take (15 : Nat) (List.drop (0 : Nat) (spl (SV.v (Value.int IntKind.i64 b0.kind) :: SV.v (Value.int IntKind.i64 b0.op) :: SV.v (Value.int IntKind.i64 b0.dst) :: SV.v (Value.int IntKind.i64 b0.a) :: SV.v (Value.int IntKind.i64 b0.b) :: SV.v (Value.int IntKind.i64 b0.n) :: SV.v (Value.string (ByteArray.mk (Array.mk b0.text))) :: SV.v (Value.int IntKind.i64 b0.args0) :: SV.v (Value.int IntKind.i64 b0.args1) :: SV.v (Value.int IntKind.i64 b0.args2) :: SV.v (Value.int IntKind.i64 b0.args3) :: SV.v (Value.int IntKind.i64 b0.args4) :: SV.v (Value.int IntKind.i64 b0.args5) :: SV.v (Value.int IntKind.i64 b0.to_) :: SV.v (Value.int IntKind.i64 b0.else_) :: @List.nil SV ++ @List.nil SV) ((0 : Nat) + (5 : Nat)) (SV.v (Value.int IntKind.i64 (0 : Int)) :: @List.nil SV)))) (List.take (15 : Nat) (List.drop (0 : Nat) (SV.v (Value.int IntKind.i64 b2.kind) :: SV.v (Value.int IntKind.i64 b2.op) :: SV.v (Value.int IntKind.i64 b2.dst) :: SV.v (Value.int IntKind.i64 b2.a) :: SV.v (Value.int IntKind.i64 b2.b) :: SV.v (Value.int IntKind.i64 b2.n) :: SV.v (Value.string (ByteArray.mk (Array.mk b2.text))) :: SV.v (Value.int IntKind.i64 b2.args0) :: SV.v (Value.int IntKind.i64 b2.args1) :: SV.v (Value.int IntKind.i64 b2.args2) :: SV.v (Value.int IntKind.i64 b2.args3) :: SV.v (Value.int IntKind.i64 b2.args4) :: SV.v (Value.int IntKind.i64 b2.args5) :: SV.v (Value.int IntKind.i64 b2.to_) :: SV.v (Value.int IntKind.i64 b2.else_) :: @List.nil SV ++ @List.nil SV)))) = true then
     some ((Dop.Ins.mk (0 : Int) b2.op b2.dst b2.a b2.b b2.n b2.text b2.args0 b2.args1 b2.args2 b2.args3 b2.args4 b2.args5 b2.to_ b2.else_, ()), ())
    else
     some ((b2, ()), ())
   else
    if (decide (b0.kind = (2 : Int))) = true then
     if (decide (b0.kind = (2 : Int))) = true then
      if (!eqSs (List.take (15 : Nat) (List.drop (0 : Nat) (spl (SV.v (Value.int IntKind.i64 b0.kind) :: SV.v (Value.int IntKind.i64 b0.op) :: SV.v (Value.int IntKind.i64 b0.dst) :: SV.v (Value.int IntKind.i64 b0.a) :: SV.v (Value.int IntKind.i64 b0.b) :: SV.v (Value.int IntKind.i64 b0.n) :: SV.v (Value.string (ByteArray.mk (Array.mk b0.text))) :: SV.v (Value.int IntKind.i64 b0.args0) :: SV.v (Value.int IntKind.i64 b0.args1) :: SV.v (Value.int IntKind.i64 b0.args2) :: SV.v (Value.int IntKind.i64 b0.args3) :: SV.v (Value.int IntKind.i64 b0.args4) :: SV.v (Value.int IntKind.i64 b0.args5) :: SV.v (Value.int IntKind.i64 b0.to_) :: SV.v (Value.int IntKind.i64 b0.else_) :: @List.nil SV ++ @List.nil SV) ((0 : Nat) + (1 : Nat)) (SV.v (Value.int IntKind.i64 (0 : Int)) :: @List.nil SV)))) (List.take (15 : Nat) (List.drop (0 : Nat) (SV.v (Value.int IntKind.i64 b2.kind) :: SV.v (Value.int IntKind.i64 b2.op) :: SV.v (Value.int IntKind.i64 b2.dst) :: SV.v (Value.int IntKind.i64 b2.a) :: SV.v (Value.int IntKind.i64 b2.b) :: SV.v (Value.int IntKind.i64 b2.n) :: SV.v (Value.string (ByteArray.mk (Array.mk b2.text))) :: SV.v (Value.int IntKind.i64 b2.args0) :: SV.v (Value.int IntKind.i64 b2.args1) :: SV.v (Value.int IntKind.i64 b2.args2) :: SV.v (Value.int IntKind.i64 b2.args3) :: SV.v (Value.int IntKind.i64 b2.args4) :: SV.v (Value.int IntKind.i64 b2.args5) :: SV.v (Value.int IntKind.i64 b2.to_) :: SV.v (Value.int IntKind.i64 b2.else_) :: @List.nil SV ++ @List.nil SV)))) = true then
       some ((Dop.Ins.mk (0 : Int) b2.op b2.dst b2.a b2.b b2.n b2.text b2.args0 b2.args1 b2.args2 b2.args3 b2.args4 b2.args5 b2.to_ b2.else_, ()), ())
      else
       some ((b2, ()), ())
     else
      Try.m32_16 (b0.kind) (b0) (b1) (b2)
    else
     if (decide (b0.kind = (3 : Int))) = true then
      if (!eqSs (List.take (15 : Nat) (List.drop (0 : Nat) (spl (SV.v (Value.int IntKind.i64 b0.kind) :: SV.v (Value.int IntKind.i64 b0.op) :: SV.v (Value.int IntKind.i64 b0.dst) :: SV.v (Value.int IntKind.i64 b0.a) :: SV.v (Value.int IntKind.i64 b0.b) :: SV.v (Value.int IntKind.i64 b0.n) :: SV.v (Value.string (ByteArray.mk (Array.mk b0.text))) :: SV.v (Value.int IntKind.i64 b0.args0) :: SV.v (Value.int IntKind.i64 b0.args1) :: SV.v (Value.int IntKind.i64 b0.args2) :: SV.v (Value.int IntKind.i64 b0.args3) :: SV.v (Value.int IntKind.i64 b0.args4) :: SV.v (Value.int IntKind.i64 b0.args5) :: SV.v (Value.int IntKind.i64 b0.to_) :: SV.v (Value.int IntKind.i64 b0.else_) :: @List.nil SV ++ @List.nil SV) ((0 : Nat) + (1 : Nat)) (SV.v (Value.int IntKind.i64 (0 : Int)) :: @List.nil SV)))) (List.take (15 : Nat) (List.drop (0 : Nat) (SV.v (Value.int IntKind.i64 b2.kind) :: SV.v (Value.int IntKind.i64 b2.op) :: SV.v (Value.int IntKind.i64 b2.dst) :: SV.v (Value.int IntKind.i64 b2.a) :: SV.v (Value.int IntKind.i64 b2.b) :: SV.v (Value.int IntKind.i64 b2.n) :: SV.v (Value.string (ByteArray.mk (Array.mk b2.text))) :: SV.v (Value.int IntKind.i64 b2.args0) :: SV.v (Value.int IntKind.i64 b2.args1) :: SV.v (Value.int IntKind.i64 b2.args2) :: SV.v (Value.int IntKind.i64 b2.args3) :: SV.v (Value.int IntKind.i64 b2.args4) :: SV.v (Value.int IntKind.i64 b2.args5) :: SV.v (Value.int IntKind.i64 b2.to_) :: SV.v (Value.int IntKind.i64 b2.else_) :: @List.nil SV ++ @List.nil SV)))) = true then
       some ((Dop.Ins.mk (0 : Int) b2.op b2.dst b2.a b2.b b2.n b2.text b2.args0 b2.args1 b2.args2 b2.args3 b2.args4 b2.args5 b2.to_ b2.else_, ()), ())
      else
       some ((b2, ()), ())
     else
      Try.m32_16 (b0.kind) (b0) (b1) (b2) := Env.cut_eq' (E := Try.m32.E) (f0 := 3000) (c := 9) (q := ⟨[[0, 0, 0, 1, 1, 1, 1, 1, 1], [0, 1, 0, 1, 1, 1, 1, 1, 1], [0, 1, 1, 1, 1, 1, 1, 1]], [1, 2, 5], 3, ⟨[.al 0 0, .al 1 0, .al 2 0], [⟨0, 46, [.st 3], false⟩, ⟨1, 46, [.st 3], false⟩, ⟨2, 46, [.st 3], false⟩]⟩⟩) (by kernel_rfl) (((), (), (), ()), ((b0, ()), (b1, ()), (b2, ()), ())) (by kernel_rfl) (by kernel_rfl)
theorem Try.m32_16_eq (t25 : Int) (b0 : En.Dop.Ins) (b1 : En.Dop.Ins) (b2 : En.Dop.Ins) : Try.m32_16 t25 b0 b1 b2 =
  if (decide (t25 = (8 : Int))) = true then
   Try.m32_18 (if (6 : Int) < if b0.n < (0 : Int) then (0 : Int) else b0.n then (6 : Int) else if b0.n < (0 : Int) then (0 : Int) else b0.n) ((0 : Int)) (b0) (b1) (b2)
  else
   if (decide (t25 = (11 : Int))) = true then
    if (!eqSs (List.take (15 : Nat) (List.drop (0 : Nat) (spl (SV.v (Value.int IntKind.i64 b0.kind) :: SV.v (Value.int IntKind.i64 b0.op) :: SV.v (Value.int IntKind.i64 b0.dst) :: SV.v (Value.int IntKind.i64 b0.a) :: SV.v (Value.int IntKind.i64 b0.b) :: SV.v (Value.int IntKind.i64 b0.n) :: SV.v (Value.string (ByteArray.mk (Array.mk b0.text))) :: SV.v (Value.int IntKind.i64 b0.args0) :: SV.v (Value.int IntKind.i64 b0.args1) :: SV.v (Value.int IntKind.i64 b0.args2) :: SV.v (Value.int IntKind.i64 b0.args3) :: SV.v (Value.int IntKind.i64 b0.args4) :: SV.v (Value.int IntKind.i64 b0.args5) :: SV.v (Value.int IntKind.i64 b0.to_) :: SV.v (Value.int IntKind.i64 b0.else_) :: @List.nil SV ++ @List.nil SV) ((0 : Nat) + (13 : Nat)) (SV.v (Value.int IntKind.i64 (0 : Int)) :: @List.nil SV)))) (List.take (15 : Nat) (List.drop (0 : Nat) (SV.v (Value.int IntKind.i64 b2.kind) :: SV.v (Value.int IntKind.i64 b2.op) :: SV.v (Value.int IntKind.i64 b2.dst) :: SV.v (Value.int IntKind.i64 b2.a) :: SV.v (Value.int IntKind.i64 b2.b) :: SV.v (Value.int IntKind.i64 b2.n) :: SV.v (Value.string (ByteArray.mk (Array.mk b2.text))) :: SV.v (Value.int IntKind.i64 b2.args0) :: SV.v (Value.int IntKind.i64 b2.args1) :: SV.v (Value.int IntKind.i64 b2.args2) :: SV.v (Value.int IntKind.i64 b2.args3) :: SV.v (Value.int IntKind.i64 b2.args4) :: SV.v (Value.int IntKind.i64 b2.args5) :: SV.v (Value.int IntKind.i64 b2.to_) :: SV.v (Value.int IntKind.i64 b2.else_) :: @List.nil SV ++ @List.nil SV)))) = true then
     some ((Dop.Ins.mk (0 : Int) b2.op b2.dst b2.a b2.b b2.n b2.text b2.args0 b2.args1 b2.args2 b2.args3 b2.args4 b2.args5 b2.to_ b2.else_, ()), ())
    else
     some ((b2, ()), ())
   else
    if (decide (t25 = (12 : Int))) = true then
     if (!eqSs (List.take (15 : Nat) (List.drop (0 : Nat) (spl (spl (SV.v (Value.int IntKind.i64 b0.kind) :: SV.v (Value.int IntKind.i64 b0.op) :: SV.v (Value.int IntKind.i64 b0.dst) :: SV.v (Value.int IntKind.i64 b0.a) :: SV.v (Value.int IntKind.i64 b0.b) :: SV.v (Value.int IntKind.i64 b0.n) :: SV.v (Value.string (ByteArray.mk (Array.mk b0.text))) :: SV.v (Value.int IntKind.i64 b0.args0) :: SV.v (Value.int IntKind.i64 b0.args1) :: SV.v (Value.int IntKind.i64 b0.args2) :: SV.v (Value.int IntKind.i64 b0.args3) :: SV.v (Value.int IntKind.i64 b0.args4) :: SV.v (Value.int IntKind.i64 b0.args5) :: SV.v (Value.int IntKind.i64 b0.to_) :: SV.v (Value.int IntKind.i64 b0.else_) :: @List.nil SV ++ @List.nil SV) ((0 : Nat) + (13 : Nat)) (SV.v (Value.int IntKind.i64 (0 : Int)) :: @List.nil SV)) ((0 : Nat) + (14 : Nat)) (SV.v (Value.int IntKind.i64 (-1 : Int)) :: @List.nil SV)))) (List.take (15 : Nat) (List.drop (0 : Nat) (SV.v (Value.int IntKind.i64 b2.kind) :: SV.v (Value.int IntKind.i64 b2.op) :: SV.v (Value.int IntKind.i64 b2.dst) :: SV.v (Value.int IntKind.i64 b2.a) :: SV.v (Value.int IntKind.i64 b2.b) :: SV.v (Value.int IntKind.i64 b2.n) :: SV.v (Value.string (ByteArray.mk (Array.mk b2.text))) :: SV.v (Value.int IntKind.i64 b2.args0) :: SV.v (Value.int IntKind.i64 b2.args1) :: SV.v (Value.int IntKind.i64 b2.args2) :: SV.v (Value.int IntKind.i64 b2.args3) :: SV.v (Value.int IntKind.i64 b2.args4) :: SV.v (Value.int IntKind.i64 b2.args5) :: SV.v (Value.int IntKind.i64 b2.to_) :: SV.v (Value.int IntKind.i64 b2.else_) :: @List.nil SV ++ @List.nil SV)))) = true then
      some ((Dop.Ins.mk (0 : Int) b2.op b2.dst b2.a b2.b b2.n b2.text b2.args0 b2.args1 b2.args2 b2.args3 b2.args4 b2.args5 b2.to_ b2.else_, ()), ())
     else
      some ((b2, ()), ())
    else
     if (!eqSs (List.take (15 : Nat) (List.drop (0 : Nat) (SV.v (Value.int IntKind.i64 b0.kind) :: SV.v (Value.int IntKind.i64 b0.op) :: SV.v (Value.int IntKind.i64 b0.dst) :: SV.v (Value.int IntKind.i64 b0.a) :: SV.v (Value.int IntKind.i64 b0.b) :: SV.v (Value.int IntKind.i64 b0.n) :: SV.v (Value.string (ByteArray.mk (Array.mk b0.text))) :: SV.v (Value.int IntKind.i64 b0.args0) :: SV.v (Value.int IntKind.i64 b0.args1) :: SV.v (Value.int IntKind.i64 b0.args2) :: SV.v (Value.int IntKind.i64 b0.args3) :: SV.v (Value.int IntKind.i64 b0.args4) :: SV.v (Value.int IntKind.i64 b0.args5) :: SV.v (Value.int IntKind.i64 b0.to_) :: SV.v (Value.int IntKind.i64 b0.else_) :: @List.nil SV ++ @List.nil SV))) (List.take (15 : Nat) (List.drop (0 : Nat) (SV.v (Value.int IntKind.i64 b2.kind) :: SV.v (Value.int IntKind.i64 b2.op) :: SV.v (Value.int IntKind.i64 b2.dst) :: SV.v (Value.int IntKind.i64 b2.a) :: SV.v (Value.int IntKind.i64 b2.b) :: SV.v (Value.int IntKind.i64 b2.n) :: SV.v (Value.string (ByteArray.mk (Array.mk b2.text))) :: SV.v (Value.int IntKind.i64 b2.args0) :: SV.v (Value.int IntKind.i64 b2.args1) :: SV.v (Value.int IntKind.i64 b2.args2) :: SV.v (Value.int IntKind.i64 b2.args3) :: SV.v (Value.int IntKind.i64 b2.args4) :: SV.v (Value.int IntKind.i64 b2.args5) :: SV.v (Value.int IntKind.i64 b2.to_) :: SV.v (Value.int IntKind.i64 b2.else_) :: @List.nil SV ++ @List.nil SV)))) = true then
      some ((Dop.Ins.mk (0 : Int) b2.op b2.dst b2.a b2.b b2.n b2.text b2.args0 b2.args1 b2.args2 b2.args3 b2.args4 b2.args5 b2.to_ b2.else_, ()), ())
     else
      some ((b2, ()), ()) := Env.cut_eq' (E := Try.m32.E) (f0 := 3000) (c := 16) (q := ⟨[[0, 0, 1, 1, 1, 1, 0, 1, 0, 1, 1, 1, 1, 1, 1], [0, 1, 1, 1, 1, 1, 0, 1, 0, 1, 1, 1, 1, 1, 1], [1, 0], [0, 1, 1, 1, 1, 1, 1, 1]], [1, 2, 5, 25], 3, ⟨[.al 0 0, .al 1 0, .al 2 0, .fd (.int .i64)], [⟨0, 46, [.st 3], false⟩, ⟨1, 46, [.st 3], false⟩, ⟨2, 46, [.st 3], false⟩]⟩⟩) (by kernel_rfl) (((), (), (), t25, ()), ((b0, ()), (b1, ()), (b2, ()), ())) (by kernel_rfl) (by kernel_rfl)
theorem Try.m32_18_eq (t39 : Int) (t40 : Int) (b0 : En.Dop.Ins) (b1 : En.Dop.Ins) (b2 : En.Dop.Ins) : Try.m32_18 t39 t40 b0 b1 b2 =
  if (decide (t40 < t39)) = true then
   if (decide ((0 : Int) ≤ t40 ∧ t40 < I (6 : Nat))) = true then
   if (decide (t40.toNat < (b0.args0 :: b0.args1 :: b0.args2 :: b0.args3 :: b0.args4 :: b0.args5 :: @List.nil Int).length)) = true then
   if (inR (t40 + (1 : Int))) = true then
   Try.m32_18 (t39) (t40 + (1 : Int)) (Dop.Ins.mk b0.kind b0.op b0.dst b0.a b0.b b0.n b0.text (if t40.toNat = (0 : Nat) then (0 : Int) else b0.args0) (if t40.toNat = (0 : Nat) + (1 : Nat) then (0 : Int) else b0.args1) (if t40.toNat = (0 : Nat) + (1 : Nat) + (1 : Nat) then (0 : Int) else b0.args2) (if t40.toNat = (0 : Nat) + (1 : Nat) + (1 : Nat) + (1 : Nat) then (0 : Int) else b0.args3) (if t40.toNat = (0 : Nat) + (1 : Nat) + (1 : Nat) + (1 : Nat) + (1 : Nat) then (0 : Int) else b0.args4) (if t40.toNat = (0 : Nat) + (1 : Nat) + (1 : Nat) + (1 : Nat) + (1 : Nat) + (1 : Nat) then (0 : Int) else b0.args5) b0.to_ b0.else_) (b1) (b2)
   else none
   else none
   else none
  else
   if (!eqSs (List.take (15 : Nat) (List.drop (0 : Nat) (spl (spl (SV.v (Value.int IntKind.i64 b0.kind) :: SV.v (Value.int IntKind.i64 b0.op) :: SV.v (Value.int IntKind.i64 b0.dst) :: SV.v (Value.int IntKind.i64 b0.a) :: SV.v (Value.int IntKind.i64 b0.b) :: SV.v (Value.int IntKind.i64 b0.n) :: SV.v (Value.string (ByteArray.mk (Array.mk b0.text))) :: SV.v (Value.int IntKind.i64 b0.args0) :: SV.v (Value.int IntKind.i64 b0.args1) :: SV.v (Value.int IntKind.i64 b0.args2) :: SV.v (Value.int IntKind.i64 b0.args3) :: SV.v (Value.int IntKind.i64 b0.args4) :: SV.v (Value.int IntKind.i64 b0.args5) :: SV.v (Value.int IntKind.i64 b0.to_) :: SV.v (Value.int IntKind.i64 b0.else_) :: @List.nil SV ++ @List.nil SV) ((0 : Nat) + (5 : Nat)) (SV.v (Value.int IntKind.i64 (0 : Int)) :: @List.nil SV)) ((0 : Nat) + (6 : Nat)) (SV.v (Value.string (ByteArray.mk (@List.nil UInt8).toArray)) :: @List.nil SV)))) (List.take (15 : Nat) (List.drop (0 : Nat) (SV.v (Value.int IntKind.i64 b2.kind) :: SV.v (Value.int IntKind.i64 b2.op) :: SV.v (Value.int IntKind.i64 b2.dst) :: SV.v (Value.int IntKind.i64 b2.a) :: SV.v (Value.int IntKind.i64 b2.b) :: SV.v (Value.int IntKind.i64 b2.n) :: SV.v (Value.string (ByteArray.mk (Array.mk b2.text))) :: SV.v (Value.int IntKind.i64 b2.args0) :: SV.v (Value.int IntKind.i64 b2.args1) :: SV.v (Value.int IntKind.i64 b2.args2) :: SV.v (Value.int IntKind.i64 b2.args3) :: SV.v (Value.int IntKind.i64 b2.args4) :: SV.v (Value.int IntKind.i64 b2.args5) :: SV.v (Value.int IntKind.i64 b2.to_) :: SV.v (Value.int IntKind.i64 b2.else_) :: @List.nil SV ++ @List.nil SV)))) = true then
    some ((Dop.Ins.mk (0 : Int) b2.op b2.dst b2.a b2.b b2.n b2.text b2.args0 b2.args1 b2.args2 b2.args3 b2.args4 b2.args5 b2.to_ b2.else_, ()), ())
   else
    some ((b2, ()), ()) := Env.cut_eq' (E := Try.m32.E) (f0 := 3000) (c := 18) (q := ⟨[[0, 0, 0, 0, 1, 0, 0, 1, 1, 1, 1, 1, 0, 1, 0, 1, 1, 1, 1, 1, 1], [0, 1, 0, 0, 1, 0, 0, 1, 1, 1, 1, 1, 0, 1, 0, 1, 1, 1, 1, 1, 1], [2, 0, 0, 1, 0, 0, 1, 1, 1, 1, 1, 0, 1, 0, 1, 1, 1, 1, 1, 1], [1, 1], [0, 1, 0, 1, 1, 1, 1, 1, 0, 1, 0, 1, 1, 1, 1, 1, 1], [1, 0], [0, 1, 1, 1, 1, 1, 1, 1]], [1, 2, 5, 39, 40], 3, ⟨[.al 0 0, .al 1 0, .al 2 0, .fd (.int .i64), .fd (.int .i64)], [⟨0, 46, [.st 3], false⟩, ⟨1, 46, [.st 3], false⟩, ⟨2, 46, [.st 3], false⟩]⟩⟩) (by kernel_rfl) (((), (), (), t39, t40, ()), ((b0, ()), (b1, ()), (b2, ()), ())) (by kernel_rfl) (by kernel_rfl)

def Try.m30.p : Pln := ⟨[], 1, ⟨[.fd (.int .i64), .al 0 0], [⟨0, 30, [.st 4], false⟩]⟩, ⟨[.fd .bool], [⟨0, 30, [.st 4], false⟩]⟩, false, [], []⟩
noncomputable def Try.m30.E : Env En.Dop.D7 := envOf Try.prog 30 Try.tb [] Try.m30.p
theorem Try.m30.ok : plnOk En.Dop.D7 Try.prog 30 Try.m30.p = true := by kernel_rfl
noncomputable def Try.m30.c : Ctr En.Dop.D7 := ⟨30, Try.m30.p.bn, Try.m30.p.sp, Try.m30.p.rs, Try.m30.p.flat, .opt (Try.m30.E.run 3000 Try.m30.p.sp)⟩
theorem Try.m30.holds : Try.m30.c.Holds Try.prog := fun_ctr 3000 Try.tbOk hct_nil Try.m30.ok
noncomputable def Try.m30 (n : Int) (b0 : En.Dop.Fnc) : Option (Spec.D En.Dop.D7 ⟨[.fd .bool], [⟨0, 30, [.st 4], false⟩]⟩) := Try.m30.E.run 3000 Try.m30.p.sp ((n, (), ()), ((b0, ()), ()))
theorem Try.m30_eq (n : Int) (b0 : En.Dop.Fnc) : Try.m30 n b0 =
  if (decide ((0 : Int) ≤ n)) = true then
   some ((decide (n < b0.regs), ()), ((b0, ()), ()))
  else
   some ((false, ()), ((b0, ()), ())) := by kernel_rfl

def Try.m34.p : Pln := ⟨[], 0, ⟨[.st 3], []⟩, ⟨[.own 0 3], []⟩, true, [], []⟩
noncomputable def Try.m34.E : Env En.Dop.D7 := envOf Try.prog 34 Try.tb [Try.m43.c] Try.m34.p
theorem Try.m34.ok : plnOk En.Dop.D7 Try.prog 34 Try.m34.p = true := by kernel_rfl
noncomputable def Try.m34.c : Ctr En.Dop.D7 := ⟨34, Try.m34.p.bn, Try.m34.p.sp, Try.m34.p.rs, Try.m34.p.flat, .opt (Try.m34.E.run 3000 Try.m34.p.sp)⟩
theorem Try.m34.holds : Try.m34.c.Holds Try.prog := fun_ctr 3000 Try.tbOk (hct_cons Try.m43.holds hct_nil) Try.m34.ok
noncomputable def Try.m34 (i : En.Dop.Ins) : Option (Spec.D En.Dop.D7 ⟨[.own 0 3], []⟩) := Try.m34.E.run 3000 Try.m34.p.sp ((i, ()), ())
theorem Try.m34_eq (i : En.Dop.Ins) : Try.m34 i =
  (Try.m43 (i.kind)).bind fun y2 =>
   if (y2.fst.fst) = true then
    if (andC none (room (8 : Nat) ((@List.nil Int).length + (i.a :: @List.nil Int).length))) = true then
    if (y2.fst.snd.fst) = true then
     if (andC none (room (8 : Nat) ((@List.nil Int ++ i.a :: @List.nil Int).length + (i.b :: @List.nil Int).length))) = true then
     if (decide (i.kind = (8 : Int))) = true then
      if (decide (((0 : Int) ≤ if (6 : Int) < if i.n < (0 : Int) then (0 : Int) else i.n then (6 : Int) else if i.n < (0 : Int) then (0 : Int) else i.n) ∧ (if (6 : Int) < if i.n < (0 : Int) then (0 : Int) else i.n then (6 : Int) else if i.n < (0 : Int) then (0 : Int) else i.n) ≤ I (6 : Nat))) = true then
      if (andC (some (decide ((if (6 : Int) < if i.n < (0 : Int) then (0 : Int) else i.n then (6 : Int) else if i.n < (0 : Int) then (0 : Int) else i.n).toNat ≤ (6 : Nat)))) (room (8 : Nat) ((@List.nil Int ++ i.a :: @List.nil Int ++ i.b :: @List.nil Int).length + (List.take (if (6 : Int) < if i.n < (0 : Int) then (0 : Int) else i.n then (6 : Int) else if i.n < (0 : Int) then (0 : Int) else i.n).toNat (i.args0 :: i.args1 :: i.args2 :: i.args3 :: i.args4 :: i.args5 :: @List.nil Int)).length))) = true then
      some ((@List.nil Int ++ i.a :: @List.nil Int ++ i.b :: @List.nil Int ++ List.take (if (6 : Int) < if i.n < (0 : Int) then (0 : Int) else i.n then (6 : Int) else if i.n < (0 : Int) then (0 : Int) else i.n).toNat (i.args0 :: i.args1 :: i.args2 :: i.args3 :: i.args4 :: i.args5 :: @List.nil Int), ()), ())
      else none
      else none
     else
      some ((@List.nil Int ++ i.a :: @List.nil Int ++ i.b :: @List.nil Int, ()), ())
     else none
    else
     if (decide (i.kind = (8 : Int))) = true then
      if (decide (((0 : Int) ≤ if (6 : Int) < if i.n < (0 : Int) then (0 : Int) else i.n then (6 : Int) else if i.n < (0 : Int) then (0 : Int) else i.n) ∧ (if (6 : Int) < if i.n < (0 : Int) then (0 : Int) else i.n then (6 : Int) else if i.n < (0 : Int) then (0 : Int) else i.n) ≤ I (6 : Nat))) = true then
      if (andC (some (decide ((if (6 : Int) < if i.n < (0 : Int) then (0 : Int) else i.n then (6 : Int) else if i.n < (0 : Int) then (0 : Int) else i.n).toNat ≤ (6 : Nat)))) (room (8 : Nat) ((@List.nil Int ++ i.a :: @List.nil Int).length + (List.take (if (6 : Int) < if i.n < (0 : Int) then (0 : Int) else i.n then (6 : Int) else if i.n < (0 : Int) then (0 : Int) else i.n).toNat (i.args0 :: i.args1 :: i.args2 :: i.args3 :: i.args4 :: i.args5 :: @List.nil Int)).length))) = true then
      some ((@List.nil Int ++ i.a :: @List.nil Int ++ List.take (if (6 : Int) < if i.n < (0 : Int) then (0 : Int) else i.n then (6 : Int) else if i.n < (0 : Int) then (0 : Int) else i.n).toNat (i.args0 :: i.args1 :: i.args2 :: i.args3 :: i.args4 :: i.args5 :: @List.nil Int), ()), ())
      else none
      else none
     else
      some ((@List.nil Int ++ i.a :: @List.nil Int, ()), ())
    else none
   else
    if (y2.fst.snd.fst) = true then
     if (andC none (room (8 : Nat) ((@List.nil Int).length + (i.b :: @List.nil Int).length))) = true then
     if (decide (i.kind = (8 : Int))) = true then
      if (decide (((0 : Int) ≤ if (6 : Int) < if i.n < (0 : Int) then (0 : Int) else i.n then (6 : Int) else if i.n < (0 : Int) then (0 : Int) else i.n) ∧ (if (6 : Int) < if i.n < (0 : Int) then (0 : Int) else i.n then (6 : Int) else if i.n < (0 : Int) then (0 : Int) else i.n) ≤ I (6 : Nat))) = true then
      if (andC (some (decide ((if (6 : Int) < if i.n < (0 : Int) then (0 : Int) else i.n then (6 : Int) else if i.n < (0 : Int) then (0 : Int) else i.n).toNat ≤ (6 : Nat)))) (room (8 : Nat) ((@List.nil Int ++ i.b :: @List.nil Int).length + (List.take (if (6 : Int) < if i.n < (0 : Int) then (0 : Int) else i.n then (6 : Int) else if i.n < (0 : Int) then (0 : Int) else i.n).toNat (i.args0 :: i.args1 :: i.args2 :: i.args3 :: i.args4 :: i.args5 :: @List.nil Int)).length))) = true then
      some ((@List.nil Int ++ i.b :: @List.nil Int ++ List.take (if (6 : Int) < if i.n < (0 : Int) then (0 : Int) else i.n then (6 : Int) else if i.n < (0 : Int) then (0 : Int) else i.n).toNat (i.args0 :: i.args1 :: i.args2 :: i.args3 :: i.args4 :: i.args5 :: @List.nil Int), ()), ())
      else none
      else none
     else
      some ((@List.nil Int ++ i.b :: @List.nil Int, ()), ())
     else none
    else
     if (decide (i.kind = (8 : Int))) = true then
      if (decide (((0 : Int) ≤ if (6 : Int) < if i.n < (0 : Int) then (0 : Int) else i.n then (6 : Int) else if i.n < (0 : Int) then (0 : Int) else i.n) ∧ (if (6 : Int) < if i.n < (0 : Int) then (0 : Int) else i.n then (6 : Int) else if i.n < (0 : Int) then (0 : Int) else i.n) ≤ I (6 : Nat))) = true then
      if (andC (some (decide ((if (6 : Int) < if i.n < (0 : Int) then (0 : Int) else i.n then (6 : Int) else if i.n < (0 : Int) then (0 : Int) else i.n).toNat ≤ (6 : Nat)))) (room (8 : Nat) ((@List.nil Int).length + (List.take (if (6 : Int) < if i.n < (0 : Int) then (0 : Int) else i.n then (6 : Int) else if i.n < (0 : Int) then (0 : Int) else i.n).toNat (i.args0 :: i.args1 :: i.args2 :: i.args3 :: i.args4 :: i.args5 :: @List.nil Int)).length))) = true then
      some ((@List.nil Int ++ List.take (if (6 : Int) < if i.n < (0 : Int) then (0 : Int) else i.n then (6 : Int) else if i.n < (0 : Int) then (0 : Int) else i.n).toNat (i.args0 :: i.args1 :: i.args2 :: i.args3 :: i.args4 :: i.args5 :: @List.nil Int), ()), ())
      else none
      else none
     else
      some ((@List.nil Int, ()), ()) := by kernel_rfl

def Try.m45_30.p : Pln := ⟨[], 2, ⟨[.fd (.int .i64), .al 0 0], [⟨0, 51, [.fn 30 [(1, 0)]], false⟩, ⟨1, 30, [.st 4], false⟩]⟩, ⟨[.fd .bool], [⟨0, 51, [.fn 30 [(1, 0)]], false⟩, ⟨1, 30, [.st 4], false⟩]⟩, false, [], []⟩
noncomputable def Try.m45_30.E : Env En.Dop.D7 := envOf Try.prog 45 Try.tb [Try.m30.c] Try.m45_30.p
theorem Try.m45_30.ok : plnOk En.Dop.D7 Try.prog 45 Try.m45_30.p = true := by kernel_rfl
noncomputable def Try.m45_30.c : Ctr En.Dop.D7 := ⟨45, Try.m45_30.p.bn, Try.m45_30.p.sp, Try.m45_30.p.rs, Try.m45_30.p.flat, .opt (Try.m45_30.E.run 3000 Try.m45_30.p.sp)⟩
theorem Try.m45_30.holds : Try.m45_30.c.Holds Try.prog := fun_ctr 3000 Try.tbOk (hct_cons Try.m30.holds hct_nil) Try.m45_30.ok
noncomputable def Try.m45_30 (n : Int) (b1 : En.Dop.Fnc) : Option (Spec.D En.Dop.D7 ⟨[.fd .bool], [⟨0, 51, [.fn 30 [(1, 0)]], false⟩, ⟨1, 30, [.st 4], false⟩]⟩) := Try.m45_30.E.run 3000 Try.m45_30.p.sp ((n, (), ()), (((), ()), (b1, ()), ()))
theorem Try.m45_30_eq (n : Int) (b1 : En.Dop.Fnc) : Try.m45_30 n b1 =
  (Try.m30 (n) (b1)).bind fun y2 =>
   some ((!y2.fst.fst, ()), (((), ()), ((y2.snd.fst.fst, ()), ()))) := by kernel_rfl

def Try.m48_45_30.p : Pln := ⟨[(2, ⟨[[0, 0, 0, 0, 1, 0, 1], [0, 1, 0, 0, 1, 0, 1], [2, 0, 0, 1, 0, 1], [1, 0], [0, 1, 1]], [0, 1, 7, 8], 2, ⟨[.fd (.sl 0), .fn 45 [(0, 0)], .fd (.int .i64), .fd (.int .i64)], [⟨0, 51, [.fn 30 [(1, 0)]], false⟩, ⟨1, 30, [.st 4], false⟩]⟩⟩)], 2, ⟨[.fd (.sl 0), .fn 45 [(0, 0)]], [⟨0, 51, [.fn 30 [(1, 0)]], false⟩, ⟨1, 30, [.st 4], false⟩]⟩, ⟨[.fd (.int .i64)], [⟨0, 51, [.fn 30 [(1, 0)]], false⟩, ⟨1, 30, [.st 4], false⟩]⟩, false, [], []⟩
noncomputable def Try.m48_45_30.E : Env En.Dop.D7 := envOf Try.prog 48 Try.tb [Try.m45_30.c] Try.m48_45_30.p
theorem Try.m48_45_30.ok : plnOk En.Dop.D7 Try.prog 48 Try.m48_45_30.p = true := by kernel_rfl
noncomputable def Try.m48_45_30.c : Ctr En.Dop.D7 := ⟨48, Try.m48_45_30.p.bn, Try.m48_45_30.p.sp, Try.m48_45_30.p.rs, Try.m48_45_30.p.flat, .opt (Try.m48_45_30.E.run 3000 Try.m48_45_30.p.sp)⟩
theorem Try.m48_45_30.holds : Try.m48_45_30.c.Holds Try.prog := fun_ctr 3000 Try.tbOk (hct_cons Try.m45_30.holds hct_nil) Try.m48_45_30.ok
noncomputable def Try.m48_45_30 (s : List (Int)) (b1 : En.Dop.Fnc) : Option (Spec.D En.Dop.D7 ⟨[.fd (.int .i64)], [⟨0, 51, [.fn 30 [(1, 0)]], false⟩, ⟨1, 30, [.st 4], false⟩]⟩) := Try.m48_45_30.E.run 3000 Try.m48_45_30.p.sp ((s, (), ()), (((), ()), (b1, ()), ()))
noncomputable def Try.m48_45_30_2 (s : List (Int)) (t7 : Int) (t8 : Int) (b1 : En.Dop.Fnc) : Option (Spec.D En.Dop.D7 ⟨[.fd (.int .i64)], [⟨0, 51, [.fn 30 [(1, 0)]], false⟩, ⟨1, 30, [.st 4], false⟩]⟩) := Try.m48_45_30.E.cut 3000 2 ((s, (), t7, t8, ()), (((), ()), (b1, ()), ()))
theorem Try.m48_45_30_eq (s : List (Int)) (b1 : En.Dop.Fnc) : Try.m48_45_30 s b1 =
  Try.m48_45_30_2 (s) (I s.length) ((0 : Int)) (b1) := by kernel_rfl
theorem Try.m48_45_30_2_eq (s : List (Int)) (t7 : Int) (t8 : Int) (b1 : En.Dop.Fnc) : Try.m48_45_30_2 s t7 t8 b1 =
  if (decide (t8 < t7)) = true then
   if (decide ((0 : Int) ≤ t8 ∧ t8 < I s.length)) = true then
   (Try.m45_30 (s.getD t8.toNat (0 : Int)) (b1)).bind fun y3 =>
    if (y3.fst.fst) = true then
     some ((t8, ()), (((), ()), ((y3.snd.snd.fst.fst, ()), ())))
    else
     if (inR (t8 + (1 : Int))) = true then
     Try.m48_45_30_2 (s) (t7) (t8 + (1 : Int)) (y3.snd.snd.fst.fst)
     else none
   else none
  else
   some (((-1 : Int), ()), (((), ()), ((b1, ()), ()))) := Env.cut_eq' (E := Try.m48_45_30.E) (f0 := 3000) (c := 2) (q := ⟨[[0, 0, 0, 0, 1, 0, 1], [0, 1, 0, 0, 1, 0, 1], [2, 0, 0, 1, 0, 1], [1, 0], [0, 1, 1]], [0, 1, 7, 8], 2, ⟨[.fd (.sl 0), .fn 45 [(0, 0)], .fd (.int .i64), .fd (.int .i64)], [⟨0, 51, [.fn 30 [(1, 0)]], false⟩, ⟨1, 30, [.st 4], false⟩]⟩⟩) (by kernel_rfl) ((s, (), t7, t8, ()), (((), ()), (b1, ()), ())) (by kernel_rfl) (by kernel_rfl)

def Try.m44_45_30.p : Pln := ⟨[], 2, ⟨[.fd (.sl 0), .fn 45 [(0, 0)]], [⟨0, 51, [.fn 30 [(1, 0)]], false⟩, ⟨1, 30, [.st 4], false⟩]⟩, ⟨[.fd .bool], [⟨0, 51, [.fn 30 [(1, 0)]], false⟩, ⟨1, 30, [.st 4], false⟩]⟩, false, [], []⟩
noncomputable def Try.m44_45_30.E : Env En.Dop.D7 := envOf Try.prog 44 Try.tb [Try.m48_45_30.c] Try.m44_45_30.p
theorem Try.m44_45_30.ok : plnOk En.Dop.D7 Try.prog 44 Try.m44_45_30.p = true := by kernel_rfl
noncomputable def Try.m44_45_30.c : Ctr En.Dop.D7 := ⟨44, Try.m44_45_30.p.bn, Try.m44_45_30.p.sp, Try.m44_45_30.p.rs, Try.m44_45_30.p.flat, .opt (Try.m44_45_30.E.run 3000 Try.m44_45_30.p.sp)⟩
theorem Try.m44_45_30.holds : Try.m44_45_30.c.Holds Try.prog := fun_ctr 3000 Try.tbOk (hct_cons Try.m48_45_30.holds hct_nil) Try.m44_45_30.ok
noncomputable def Try.m44_45_30 (s : List (Int)) (b1 : En.Dop.Fnc) : Option (Spec.D En.Dop.D7 ⟨[.fd .bool], [⟨0, 51, [.fn 30 [(1, 0)]], false⟩, ⟨1, 30, [.st 4], false⟩]⟩) := Try.m44_45_30.E.run 3000 Try.m44_45_30.p.sp ((s, (), ()), (((), ()), (b1, ()), ()))
theorem Try.m44_45_30_eq (s : List (Int)) (b1 : En.Dop.Fnc) : Try.m44_45_30 s b1 =
  (Try.m48_45_30 (s) (b1)).bind fun y2 =>
   some ((decide ((0 : Int) ≤ y2.fst.fst), ()), (((), ()), ((y2.snd.snd.fst.fst, ()), ()))) := by kernel_rfl

def Try.m33_30.p : Pln := ⟨[], 1, ⟨[.fd (.sl 0), .fn 30 [(0, 0)]], [⟨0, 30, [.st 4], false⟩]⟩, ⟨[.fd .bool], [⟨0, 30, [.st 4], false⟩]⟩, false, [], []⟩
noncomputable def Try.m33_30.E : Env En.Dop.D7 := envOf Try.prog 33 Try.tb [Try.m44_45_30.c] Try.m33_30.p
theorem Try.m33_30.ok : plnOk En.Dop.D7 Try.prog 33 Try.m33_30.p = true := by kernel_rfl
noncomputable def Try.m33_30.c : Ctr En.Dop.D7 := ⟨33, Try.m33_30.p.bn, Try.m33_30.p.sp, Try.m33_30.p.rs, Try.m33_30.p.flat, .opt (Try.m33_30.E.run 3000 Try.m33_30.p.sp)⟩
theorem Try.m33_30.holds : Try.m33_30.c.Holds Try.prog := fun_ctr 3000 Try.tbOk (hct_cons Try.m44_45_30.holds hct_nil) Try.m33_30.ok
noncomputable def Try.m33_30 (l : List (Int)) (b0 : En.Dop.Fnc) : Option (Spec.D En.Dop.D7 ⟨[.fd .bool], [⟨0, 30, [.st 4], false⟩]⟩) := Try.m33_30.E.run 3000 Try.m33_30.p.sp ((l, (), ()), ((b0, ()), ()))
theorem Try.m33_30_eq (l : List (Int)) (b0 : En.Dop.Fnc) : Try.m33_30 l b0 =
  (Try.m44_45_30 (l) (b0)).bind fun y2 =>
   some ((!y2.fst.fst, ()), ((y2.snd.snd.fst.fst, ()), ())) := by kernel_rfl

def Try.m35.p : Pln := ⟨[], 0, ⟨[.fd (.int .i64)], []⟩, ⟨[.fd .bool], []⟩, true, [], []⟩
noncomputable def Try.m35.E : Env En.Dop.D7 := envOf Try.prog 35 Try.tb [] Try.m35.p
theorem Try.m35.ok : plnOk En.Dop.D7 Try.prog 35 Try.m35.p = true := by kernel_rfl
noncomputable def Try.m35.c : Ctr En.Dop.D7 := ⟨35, Try.m35.p.bn, Try.m35.p.sp, Try.m35.p.rs, Try.m35.p.flat, .opt (Try.m35.E.run 3000 Try.m35.p.sp)⟩
theorem Try.m35.holds : Try.m35.c.Holds Try.prog := fun_ctr 3000 Try.tbOk hct_nil Try.m35.ok
noncomputable def Try.m35 (op : Int) : Option (Spec.D En.Dop.D7 ⟨[.fd .bool], []⟩) := Try.m35.E.run 3000 Try.m35.p.sp ((op, ()), ())
theorem Try.m35_eq (op : Int) : Try.m35 op =
  if (decide ((20 : Int) ≤ op)) = true then
   some ((decide (op ≤ (23 : Int)), ()), ())
  else
   some ((false, ()), ()) := by kernel_rfl

def Try.m36.p : Pln := ⟨[], 0, ⟨[.fd (.int .i64)], []⟩, ⟨[.fd .bool], []⟩, true, [], []⟩
noncomputable def Try.m36.E : Env En.Dop.D7 := envOf Try.prog 36 Try.tb [] Try.m36.p
theorem Try.m36.ok : plnOk En.Dop.D7 Try.prog 36 Try.m36.p = true := by kernel_rfl
noncomputable def Try.m36.c : Ctr En.Dop.D7 := ⟨36, Try.m36.p.bn, Try.m36.p.sp, Try.m36.p.rs, Try.m36.p.flat, .opt (Try.m36.E.run 3000 Try.m36.p.sp)⟩
theorem Try.m36.holds : Try.m36.c.Holds Try.prog := fun_ctr 3000 Try.tbOk hct_nil Try.m36.ok
noncomputable def Try.m36 (op : Int) : Option (Spec.D En.Dop.D7 ⟨[.fd .bool], []⟩) := Try.m36.E.run 3000 Try.m36.p.sp ((op, ()), ())
theorem Try.m36_eq (op : Int) : Try.m36 op =
  if (decide ((1 : Int) ≤ op)) = true then
   some ((decide (op ≤ (19 : Int)), ()), ())
  else
   some ((false, ()), ()) := by kernel_rfl

def Try.m31.p : Pln := ⟨[], 1, ⟨[.fd (.int .i64), .al 0 0], [⟨0, 30, [.st 4], false⟩]⟩, ⟨[.fd .bool], [⟨0, 30, [.st 4], false⟩]⟩, false, [], []⟩
noncomputable def Try.m31.E : Env En.Dop.D7 := envOf Try.prog 31 Try.tb [] Try.m31.p
theorem Try.m31.ok : plnOk En.Dop.D7 Try.prog 31 Try.m31.p = true := by kernel_rfl
noncomputable def Try.m31.c : Ctr En.Dop.D7 := ⟨31, Try.m31.p.bn, Try.m31.p.sp, Try.m31.p.rs, Try.m31.p.flat, .opt (Try.m31.E.run 3000 Try.m31.p.sp)⟩
theorem Try.m31.holds : Try.m31.c.Holds Try.prog := fun_ctr 3000 Try.tbOk hct_nil Try.m31.ok
noncomputable def Try.m31 (n : Int) (b0 : En.Dop.Fnc) : Option (Spec.D En.Dop.D7 ⟨[.fd .bool], [⟨0, 30, [.st 4], false⟩]⟩) := Try.m31.E.run 3000 Try.m31.p.sp ((n, (), ()), ((b0, ()), ()))
theorem Try.m31_eq (n : Int) (b0 : En.Dop.Fnc) : Try.m31 n b0 =
  if (decide ((0 : Int) ≤ n)) = true then
   some ((decide (n < I b0.code.length), ()), ((b0, ()), ()))
  else
   some ((false, ()), ((b0, ()), ())) := by kernel_rfl

def Try.m20.p : Pln := ⟨[], 0, ⟨[.st 3, .st 4], []⟩, ⟨[.fd .bool], []⟩, true, [], []⟩
noncomputable def Try.m20.E : Env En.Dop.D7 := envOf Try.prog 20 Try.tb [Try.m32.c, Try.m29.c, Try.m30.c, Try.m34.c, Try.m33_30.c, Try.m22.c, Try.m35.c, Try.m36.c, Try.m31.c] Try.m20.p
theorem Try.m20.ok : plnOk En.Dop.D7 Try.prog 20 Try.m20.p = true := by kernel_rfl
noncomputable def Try.m20.c : Ctr En.Dop.D7 := ⟨20, Try.m20.p.bn, Try.m20.p.sp, Try.m20.p.rs, Try.m20.p.flat, .opt (Try.m20.E.run 3000 Try.m20.p.sp)⟩
theorem Try.m20.holds : Try.m20.c.Holds Try.prog := fun_ctr 3000 Try.tbOk (hct_cons Try.m32.holds (hct_cons Try.m29.holds (hct_cons Try.m30.holds (hct_cons Try.m34.holds (hct_cons Try.m33_30.holds (hct_cons Try.m22.holds (hct_cons Try.m35.holds (hct_cons Try.m36.holds (hct_cons Try.m31.holds hct_nil))))))))) Try.m20.ok
noncomputable def Try.m20 (o : En.Dop.Ins) (t1 : En.Dop.Fnc) : Option (Spec.D En.Dop.D7 ⟨[.fd .bool], []⟩) := Try.m20.E.run 3000 Try.m20.p.sp ((o, t1, ()), ())
theorem Try.m20_eq (o : En.Dop.Ins) (t1 : En.Dop.Fnc) : Try.m20 o t1 =
  if (decide (o.kind < (1 : Int))) = true then
   some ((false, ()), ())
  else
   if (decide ((13 : Int) < o.kind)) = true then
    some ((false, ()), ())
   else
    (Try.m32 (o)).bind fun y4 =>
     if (decide (y4.fst.fst.kind = (0 : Int))) = true then
      some ((false, ()), ())
     else
      (Try.m29 (o.kind)).bind fun y6 =>
       if (y6.fst.fst) = true then
        (Try.m30 (o.dst) (t1)).bind fun y8 =>
         if (!y8.fst.fst) = true then
          if (decide (o.kind = (8 : Int))) = true then
           if (!decide (o.dst = (-1 : Int))) = true then
            some ((false, ()), ())
           else
            (Try.m34 (o)).bind fun y12 =>
             (Try.m33_30 (y12.fst.fst) (y8.snd.fst.fst)).bind fun y13 =>
              if (!y13.fst.fst) = true then
               some ((false, ()), ())
              else
               if (decide (o.kind = (1 : Int))) = true then
                (Try.m22 (o.n)).bind fun y16 =>
                 some ((y16.fst.fst, ()), ())
               else
                if (decide (o.kind = (2 : Int))) = true then
                 (Try.m35 (o.op)).bind fun y17 =>
                  some ((y17.fst.fst, ()), ())
                else
                 if (decide (o.kind = (3 : Int))) = true then
                  (Try.m36 (o.op)).bind fun y18 =>
                   some ((y18.fst.fst, ()), ())
                 else
                  if (decide (o.kind = (5 : Int))) = true then
                   if (decide ((0 : Int) ≤ o.n)) = true then
                    some ((decide (o.n ≤ y13.snd.fst.fst.frame), ()), ())
                   else
                    some ((false, ()), ())
                  else
                   if (decide (o.kind = (8 : Int))) = true then
                    if (decide ((0 : Int) ≤ o.n)) = true then
                     if (decide (o.n ≤ (6 : Int))) = true then
                      some ((!decide (o.text = @List.nil UInt8), ()), ())
                     else
                      some ((false, ()), ())
                    else
                     some ((false, ()), ())
                   else
                    if (decide (o.kind = (11 : Int))) = true then
                     (Try.m31 (o.to_) (y13.snd.fst.fst)).bind fun y21 =>
                      some ((y21.fst.fst, ()), ())
                    else
                     if (decide (o.kind = (12 : Int))) = true then
                      (Try.m31 (o.to_) (y13.snd.fst.fst)).bind fun y22 =>
                       if (y22.fst.fst) = true then
                        (Try.m31 (o.else_) (y22.snd.fst.fst)).bind fun y24 =>
                         some ((y24.fst.fst, ()), ())
                       else
                        some ((false, ()), ())
                     else
                      some ((true, ()), ())
          else
           some ((false, ()), ())
         else
          (Try.m34 (o)).bind fun y10 =>
           (Try.m33_30 (y10.fst.fst) (y8.snd.fst.fst)).bind fun y11 =>
            if (!y11.fst.fst) = true then
             some ((false, ()), ())
            else
             if (decide (o.kind = (1 : Int))) = true then
              (Try.m22 (o.n)).bind fun y14 =>
               some ((y14.fst.fst, ()), ())
             else
              if (decide (o.kind = (2 : Int))) = true then
               (Try.m35 (o.op)).bind fun y15 =>
                some ((y15.fst.fst, ()), ())
              else
               if (decide (o.kind = (3 : Int))) = true then
                (Try.m36 (o.op)).bind fun y16 =>
                 some ((y16.fst.fst, ()), ())
               else
                if (decide (o.kind = (5 : Int))) = true then
                 if (decide ((0 : Int) ≤ o.n)) = true then
                  some ((decide (o.n ≤ y11.snd.fst.fst.frame), ()), ())
                 else
                  some ((false, ()), ())
                else
                 if (decide (o.kind = (8 : Int))) = true then
                  if (decide ((0 : Int) ≤ o.n)) = true then
                   if (decide (o.n ≤ (6 : Int))) = true then
                    some ((!decide (o.text = @List.nil UInt8), ()), ())
                   else
                    some ((false, ()), ())
                  else
                   some ((false, ()), ())
                 else
                  if (decide (o.kind = (11 : Int))) = true then
                   (Try.m31 (o.to_) (y11.snd.fst.fst)).bind fun y19 =>
                    some ((y19.fst.fst, ()), ())
                  else
                   if (decide (o.kind = (12 : Int))) = true then
                    (Try.m31 (o.to_) (y11.snd.fst.fst)).bind fun y20 =>
                     if (y20.fst.fst) = true then
                      (Try.m31 (o.else_) (y20.snd.fst.fst)).bind fun y22 =>
                       some ((y22.fst.fst, ()), ())
                     else
                      some ((false, ()), ())
                   else
                    some ((true, ()), ())
       else
        (Try.m34 (o)).bind fun y8 =>
         (Try.m33_30 (y8.fst.fst) (t1)).bind fun y9 =>
          if (!y9.fst.fst) = true then
           some ((false, ()), ())
          else
           if (decide (o.kind = (1 : Int))) = true then
            (Try.m22 (o.n)).bind fun y12 =>
             some ((y12.fst.fst, ()), ())
           else
            if (decide (o.kind = (2 : Int))) = true then
             (Try.m35 (o.op)).bind fun y13 =>
              some ((y13.fst.fst, ()), ())
            else
             if (decide (o.kind = (3 : Int))) = true then
              (Try.m36 (o.op)).bind fun y14 =>
               some ((y14.fst.fst, ()), ())
             else
              if (decide (o.kind = (5 : Int))) = true then
               if (decide ((0 : Int) ≤ o.n)) = true then
                some ((decide (o.n ≤ y9.snd.fst.fst.frame), ()), ())
               else
                some ((false, ()), ())
              else
               if (decide (o.kind = (8 : Int))) = true then
                if (decide ((0 : Int) ≤ o.n)) = true then
                 if (decide (o.n ≤ (6 : Int))) = true then
                  some ((!decide (o.text = @List.nil UInt8), ()), ())
                 else
                  some ((false, ()), ())
                else
                 some ((false, ()), ())
               else
                if (decide (o.kind = (11 : Int))) = true then
                 (Try.m31 (o.to_) (y9.snd.fst.fst)).bind fun y17 =>
                  some ((y17.fst.fst, ()), ())
                else
                 if (decide (o.kind = (12 : Int))) = true then
                  (Try.m31 (o.to_) (y9.snd.fst.fst)).bind fun y18 =>
                   if (y18.fst.fst) = true then
                    (Try.m31 (o.else_) (y18.snd.fst.fst)).bind fun y20 =>
                     some ((y20.fst.fst, ()), ())
                   else
                    some ((false, ()), ())
                 else
                  some ((true, ()), ()) := by kernel_rfl

def Try.m9.p : Pln := ⟨[(4, ⟨[[0, 0, 0, 0, 1, 0, 1, 1], [0, 1, 0, 0, 1, 0, 1, 1], [2, 0, 0, 1, 0, 1, 1], [1, 0], [0, 1, 1, 1]], [1, 53, 54, 55], 1, ⟨[.al 0 0, .fd (.sl 3), .fd (.int .i64), .fd (.int .i64)], [⟨0, 30, [.st 4], false⟩]⟩⟩)], 0, ⟨[.st 4], []⟩, ⟨[.fd .bool], []⟩, true, [], []⟩
noncomputable def Try.m9.E : Env En.Dop.D7 := envOf Try.prog 9 Try.tb [Try.m20.c] Try.m9.p
theorem Try.m9.ok : plnOk En.Dop.D7 Try.prog 9 Try.m9.p = true := by kernel_rfl
noncomputable def Try.m9.c : Ctr En.Dop.D7 := ⟨9, Try.m9.p.bn, Try.m9.p.sp, Try.m9.p.rs, Try.m9.p.flat, .opt (Try.m9.E.run 3000 Try.m9.p.sp)⟩
theorem Try.m9.holds : Try.m9.c.Holds Try.prog := fun_ctr 3000 Try.tbOk (hct_cons Try.m20.holds hct_nil) Try.m9.ok
noncomputable def Try.m9 (o : En.Dop.Fnc) : Option (Spec.D En.Dop.D7 ⟨[.fd .bool], []⟩) := Try.m9.E.run 3000 Try.m9.p.sp ((o, ()), ())
noncomputable def Try.m9_4 (t53 : List (En.Dop.Ins)) (t54 : Int) (t55 : Int) (b0 : En.Dop.Fnc) : Option (Spec.D En.Dop.D7 ⟨[.fd .bool], []⟩) := Try.m9.E.cut 3000 4 (((), t53, t54, t55, ()), ((b0, ()), ()))
theorem Try.m9_eq (o : En.Dop.Fnc) : Try.m9 o =
  if (decide (o.name = @List.nil UInt8)) = true then
   some ((false, ()), ())
  else
   if (decide (o.params < (0 : Int))) = true then
    some ((false, ()), ())
   else
    if (decide ((6 : Int) < o.params)) = true then
     some ((false, ()), ())
    else
     if (decide (o.regs < o.params)) = true then
      some ((false, ()), ())
     else
      if (decide ((4096 : Int) < o.regs)) = true then
       some ((false, ()), ())
      else
       if (decide (o.frame < (0 : Int))) = true then
        some ((false, ()), ())
       else
        if (decide ((4096 : Int) < o.frame)) = true then
         some ((false, ()), ())
        else
         if (decide (I o.code.length < (1 : Int))) = true then
          some ((false, ()), ())
         else
          if (decide ((8192 : Int) < I o.code.length)) = true then
           some ((false, ()), ())
          else
           Try.m9_4 (o.code) (I o.code.length) ((0 : Int)) (o) := by kernel_rfl
theorem Try.m9_4_eq (t53 : List (En.Dop.Ins)) (t54 : Int) (t55 : Int) (b0 : En.Dop.Fnc) : Try.m9_4 t53 t54 t55 b0 =
  if (decide (t55 < t54)) = true then
   if (decide ((0 : Int) ≤ t55 ∧ t55 < I t53.length)) = true then
   (Try.m20 (t53.getD t55.toNat Dop.d3) (b0)).bind fun y3 =>
    if (!y3.fst.fst) = true then
     some ((false, ()), ())
    else
     if (inR (t55 + (1 : Int))) = true then
     Try.m9_4 (t53) (t54) (t55 + (1 : Int)) (b0)
     else none
   else none
  else
   if (inR (I b0.code.length - (1 : Int))) = true then
   if (decide ((0 : Int) ≤ I b0.code.length - (1 : Int) ∧ I b0.code.length - (1 : Int) < I b0.code.length)) = true then
   some ((decide ((11 : Int) ≤ (b0.code.getD (I b0.code.length - (1 : Int)).toNat Dop.d3).kind), ()), ())
   else none
   else none := Env.cut_eq' (E := Try.m9.E) (f0 := 3000) (c := 4) (q := ⟨[[0, 0, 0, 0, 1, 0, 1, 1], [0, 1, 0, 0, 1, 0, 1, 1], [2, 0, 0, 1, 0, 1, 1], [1, 0], [0, 1, 1, 1]], [1, 53, 54, 55], 1, ⟨[.al 0 0, .fd (.sl 3), .fd (.int .i64), .fd (.int .i64)], [⟨0, 30, [.st 4], false⟩]⟩⟩) (by kernel_rfl) (((), t53, t54, t55, ()), ((b0, ()), ())) (by kernel_rfl) (by kernel_rfl)

def Try.m11.p : Pln := ⟨[(4, ⟨[[0, 0, 0, 0, 1, 0, 1, 1], [0, 1, 0, 0, 1, 0, 1, 1], [2, 0, 0, 1, 0, 1, 1], [1, 0], [0, 1, 1, 1]], [1, 25, 26, 27], 1, ⟨[.al 0 0, .fd (.sl 5), .fd (.int .i64), .fd (.int .i64)], [⟨0, 25, [.st 6], false⟩]⟩⟩), (10, ⟨[[0, 0, 0, 0, 1, 0, 1, 1, 1], [0, 1, 0, 0, 1, 0, 1, 1, 1], [2, 0, 0, 1, 0, 1, 1, 1], [1, 2], [0, 1, 1, 1, 1]], [1, 64, 65, 66], 1, ⟨[.al 0 0, .fd (.sl 4), .fd (.int .i64), .fd (.int .i64)], [⟨0, 25, [.st 6], false⟩]⟩⟩), (15, ⟨[[0, 0, 0, 0, 1, 1, 1, 0, 0, 1, 1, 0, 0, 1, 0, 1, 1, 1], [0, 1, 0, 0, 1, 1, 1, 0, 0, 1, 1, 0, 0, 1, 0, 1, 1, 1], [2, 0, 0, 1, 1, 1, 0, 0, 1, 1, 0, 0, 1, 0, 1, 1, 1], [1, 4], [1, 3], [0, 1, 1, 1, 0, 0, 1, 0, 1, 1, 1], [2, 0, 0, 1, 0, 1, 1, 1], [1, 2], [0, 1, 1, 1, 1]], [1, 64, 65, 66, 83, 84, 85], 1, ⟨[.al 0 0, .fd (.sl 4), .fd (.int .i64), .fd (.int .i64), .fd (.sl 3), .fd (.int .i64), .fd (.int .i64)], [⟨0, 25, [.st 6], false⟩]⟩⟩)], 0, ⟨[.st 6], []⟩, ⟨[.fd .bool], []⟩, true, [(19, ⟨[(0, true), (1, true), (2, true), (3, true), (4, false), (5, true), (6, false), (7, false), (8, false), (9, true), (10, false), (11, true), (12, true)], [], [0, 1, 3, 7, 15, 7, 63, 127, 255, 7, 519, 2047, 4095], false⟩)], []⟩
noncomputable def Try.m11.E : Env En.Dop.D7 := envOf Try.prog 11 Try.tb [Try.m22.c, Try.m9.c, Try.m13.c] Try.m11.p
theorem Try.m11.ok : plnOk En.Dop.D7 Try.prog 11 Try.m11.p = true := by kernel_rfl
noncomputable def Try.m11.c : Ctr En.Dop.D7 := ⟨11, Try.m11.p.bn, Try.m11.p.sp, Try.m11.p.rs, Try.m11.p.flat, .opt (Try.m11.E.run 3000 Try.m11.p.sp)⟩
theorem Try.m11.holds : Try.m11.c.Holds Try.prog := fun_ctr 3000 Try.tbOk (hct_cons Try.m22.holds (hct_cons Try.m9.holds (hct_cons Try.m13.holds hct_nil))) Try.m11.ok
noncomputable def Try.m11 (o : En.Dop.Unt) : Option (Spec.D En.Dop.D7 ⟨[.fd .bool], []⟩) := Try.m11.E.run 3000 Try.m11.p.sp ((o, ()), ())
noncomputable def Try.m11_4 (t25 : List (En.Dop.Glb)) (t26 : Int) (t27 : Int) (b0 : En.Dop.Unt) : Option (Spec.D En.Dop.D7 ⟨[.fd .bool], []⟩) := Try.m11.E.cut 3000 4 (((), t25, t26, t27, ()), ((b0, ()), ()))
noncomputable def Try.m11_10 (t64 : List (En.Dop.Fnc)) (t65 : Int) (t66 : Int) (b0 : En.Dop.Unt) : Option (Spec.D En.Dop.D7 ⟨[.fd .bool], []⟩) := Try.m11.E.cut 3000 10 (((), t64, t65, t66, ()), ((b0, ()), ()))
noncomputable def Try.m11_15 (t64 : List (En.Dop.Fnc)) (t65 : Int) (t66 : Int) (t83 : List (En.Dop.Ins)) (t84 : Int) (t85 : Int) (b0 : En.Dop.Unt) : Option (Spec.D En.Dop.D7 ⟨[.fd .bool], []⟩) := Try.m11.E.cut 3000 15 (((), t64, t65, t66, t83, t84, t85, ()), ((b0, ()), ()))
theorem Try.m11_eq (o : En.Dop.Unt) : Try.m11 o =
  if (decide ((64 : Int) < I o.funcs.length)) = true then
   some ((false, ()), ())
  else
   if (decide (o.top < (1 : Int))) = true then
    some ((false, ()), ())
   else
    if (decide ((4096 : Int) < o.top)) = true then
     some ((false, ()), ())
    else
     Try.m11_4 (o.globals) (I o.globals.length) ((0 : Int)) (o) := by kernel_rfl
theorem Try.m11_4_eq (t25 : List (En.Dop.Glb)) (t26 : Int) (t27 : Int) (b0 : En.Dop.Unt) : Try.m11_4 t25 t26 t27 b0 =
  if (decide (t27 < t26)) = true then
   if (decide ((0 : Int) ≤ t27 ∧ t27 < I t25.length)) = true then
   if (decide ((t25.getD t27.toNat Dop.d5).at_ < (1 : Int))) = true then
    some ((false, ()), ())
   else
    if (decide ((t25.getD t27.toNat Dop.d5).size < (0 : Int))) = true then
     some ((false, ()), ())
    else
     if (decide (b0.top < (t25.getD t27.toNat Dop.d5).size)) = true then
      some ((false, ()), ())
     else
      if (inR (b0.top - (t25.getD t27.toNat Dop.d5).size)) = true then
      if (decide (b0.top - (t25.getD t27.toNat Dop.d5).size < (t25.getD t27.toNat Dop.d5).at_)) = true then
       some ((false, ()), ())
      else
       (Try.m22 ((t25.getD t27.toNat Dop.d5).init_)).bind fun y7 =>
        if (!y7.fst.fst) = true then
         some ((false, ()), ())
        else
         if (inR (t27 + (1 : Int))) = true then
         Try.m11_4 (t25) (t26) (t27 + (1 : Int)) (b0)
         else none
      else none
   else none
  else
   Try.m11_10 (b0.funcs) (I b0.funcs.length) ((0 : Int)) (b0) := Env.cut_eq' (E := Try.m11.E) (f0 := 3000) (c := 4) (q := ⟨[[0, 0, 0, 0, 1, 0, 1, 1], [0, 1, 0, 0, 1, 0, 1, 1], [2, 0, 0, 1, 0, 1, 1], [1, 0], [0, 1, 1, 1]], [1, 25, 26, 27], 1, ⟨[.al 0 0, .fd (.sl 5), .fd (.int .i64), .fd (.int .i64)], [⟨0, 25, [.st 6], false⟩]⟩⟩) (by kernel_rfl) (((), t25, t26, t27, ()), ((b0, ()), ())) (by kernel_rfl) (by kernel_rfl)
theorem Try.m11_10_eq (t64 : List (En.Dop.Fnc)) (t65 : Int) (t66 : Int) (b0 : En.Dop.Unt) : Try.m11_10 t64 t65 t66 b0 =
  if (decide (t66 < t65)) = true then
   if (decide ((0 : Int) ≤ t66 ∧ t66 < I t64.length)) = true then
   (Try.m9 (t64.getD t66.toNat Dop.d4)).bind fun y3 =>
    if (!y3.fst.fst) = true then
     some ((false, ()), ())
    else
     (Try.m13 (b0) ((t64.getD t66.toNat Dop.d4).name)).bind fun y5 =>
      if (!decide (y5.fst.fst = t66)) = true then
       some ((false, ()), ())
      else
       Try.m11_15 (t64) (t65) (t66) ((t64.getD t66.toNat Dop.d4).code) (I (t64.getD t66.toNat Dop.d4).code.length) ((0 : Int)) (b0)
   else none
  else
   some ((true, ()), ()) := Env.cut_eq' (E := Try.m11.E) (f0 := 3000) (c := 10) (q := ⟨[[0, 0, 0, 0, 1, 0, 1, 1, 1], [0, 1, 0, 0, 1, 0, 1, 1, 1], [2, 0, 0, 1, 0, 1, 1, 1], [1, 2], [0, 1, 1, 1, 1]], [1, 64, 65, 66], 1, ⟨[.al 0 0, .fd (.sl 4), .fd (.int .i64), .fd (.int .i64)], [⟨0, 25, [.st 6], false⟩]⟩⟩) (by kernel_rfl) (((), t64, t65, t66, ()), ((b0, ()), ())) (by kernel_rfl) (by kernel_rfl)
theorem Try.m11_15_eq (t64 : List (En.Dop.Fnc)) (t65 : Int) (t66 : Int) (t83 : List (En.Dop.Ins)) (t84 : Int) (t85 : Int) (b0 : En.Dop.Unt) : Try.m11_15 t64 t65 t66 t83 t84 t85 b0 =
  if (decide (t85 < t84)) = true then
   if (decide ((0 : Int) ≤ t85 ∧ t85 < I t83.length)) = true then
   if (!decide ((t83.getD t85.toNat Dop.d3).kind = (8 : Int))) = true then
    if (inR (t85 + (1 : Int))) = true then
    Try.m11_15 (t64) (t65) (t66) (t83) (t84) (t85 + (1 : Int)) (b0)
    else none
   else
    (Try.m13 (b0) ((t83.getD t85.toNat Dop.d3).text)).bind fun y4 =>
     if (decide (y4.fst.fst < (0 : Int))) = true then
      some ((false, ()), ())
     else
      if (decide ((0 : Int) ≤ y4.fst.fst ∧ y4.fst.fst < I b0.funcs.length)) = true then
      if (!decide ((b0.funcs.getD y4.fst.fst.toNat Dop.d4).params = (t83.getD t85.toNat Dop.d3).n)) = true then
       some ((false, ()), ())
      else
       if (inR (t85 + (1 : Int))) = true then
       Try.m11_15 (t64) (t65) (t66) (t83) (t84) (t85 + (1 : Int)) (b0)
       else none
      else none
   else none
  else
   if (inR (t66 + (1 : Int))) = true then
   Try.m11_10 (t64) (t65) (t66 + (1 : Int)) (b0)
   else none := Env.cut_eq' (E := Try.m11.E) (f0 := 3000) (c := 15) (q := ⟨[[0, 0, 0, 0, 1, 1, 1, 0, 0, 1, 1, 0, 0, 1, 0, 1, 1, 1], [0, 1, 0, 0, 1, 1, 1, 0, 0, 1, 1, 0, 0, 1, 0, 1, 1, 1], [2, 0, 0, 1, 1, 1, 0, 0, 1, 1, 0, 0, 1, 0, 1, 1, 1], [1, 4], [1, 3], [0, 1, 1, 1, 0, 0, 1, 0, 1, 1, 1], [2, 0, 0, 1, 0, 1, 1, 1], [1, 2], [0, 1, 1, 1, 1]], [1, 64, 65, 66, 83, 84, 85], 1, ⟨[.al 0 0, .fd (.sl 4), .fd (.int .i64), .fd (.int .i64), .fd (.sl 3), .fd (.int .i64), .fd (.int .i64)], [⟨0, 25, [.st 6], false⟩]⟩⟩) (by kernel_rfl) (((), t64, t65, t66, t83, t84, t85, ()), ((b0, ()), ())) (by kernel_rfl) (by kernel_rfl)

def Try.m46.p : Pln := ⟨[], 0, ⟨[.fd (.int .i64)], []⟩, ⟨[.fd (.int .i64)], []⟩, true, [], []⟩
noncomputable def Try.m46.E : Env En.Dop.D7 := envOf Try.prog 46 Try.tb [] Try.m46.p
theorem Try.m46.ok : plnOk En.Dop.D7 Try.prog 46 Try.m46.p = true := by kernel_rfl
noncomputable def Try.m46.c : Ctr En.Dop.D7 := ⟨46, Try.m46.p.bn, Try.m46.p.sp, Try.m46.p.rs, Try.m46.p.flat, .opt (Try.m46.E.run 3000 Try.m46.p.sp)⟩
theorem Try.m46.holds : Try.m46.c.Holds Try.prog := fun_ctr 3000 Try.tbOk hct_nil Try.m46.ok
noncomputable def Try.m46 (n : Int) : Option (Spec.D En.Dop.D7 ⟨[.fd (.int .i64)], []⟩) := Try.m46.E.run 3000 Try.m46.p.sp ((n, ()), ())
theorem Try.m46_eq (n : Int) : Try.m46 n =
  if (inR (IntKind.u32.wrap n)) = true then
  some ((IntKind.u32.wrap n, ()), ())
  else none := by kernel_rfl

def Try.m49.p : Pln := ⟨[], 0, ⟨[.fd (.int .i64)], []⟩, ⟨[.fd (.int .i64), .fd .bool], []⟩, true, [], []⟩
noncomputable def Try.m49.E : Env En.Dop.D7 := envOf Try.prog 49 Try.tb [Try.m39.c] Try.m49.p
theorem Try.m49.ok : plnOk En.Dop.D7 Try.prog 49 Try.m49.p = true := by kernel_rfl
noncomputable def Try.m49.c : Ctr En.Dop.D7 := ⟨49, Try.m49.p.bn, Try.m49.p.sp, Try.m49.p.rs, Try.m49.p.flat, .opt (Try.m49.E.run 3000 Try.m49.p.sp)⟩
theorem Try.m49.holds : Try.m49.c.Holds Try.prog := fun_ctr 3000 Try.tbOk (hct_cons Try.m39.holds hct_nil) Try.m49.ok
noncomputable def Try.m49 (n : Int) : Option (Spec.D En.Dop.D7 ⟨[.fd (.int .i64), .fd .bool], []⟩) := Try.m49.E.run 3000 Try.m49.p.sp ((n, ()), ())
theorem Try.m49_eq (n : Int) : Try.m49 n =
  (Try.m39 (n)).bind fun y2 =>
   some ((y2.fst.fst, (true, ())), ()) := by kernel_rfl

def Try.m50.p : Pln := ⟨[(3, ⟨[[0, 0, 1, 2, 0, 1], [0, 1, 1, 2, 0, 1], [3, 0, 1]], [], 0, ⟨[], []⟩⟩)], 0, ⟨[.fd (.int .i64), .fd (.int .i64)], []⟩, ⟨[.fd (.int .i64), .fd (.int .i64), .fd .bool], []⟩, true, [(2, ⟨[(0, true), (1, true), (2, true), (3, true), (4, true), (5, true), (6, true), (7, true), (8, true)], [], [0, 0, 3, 0, 0, 24, 7, 127, 255], false⟩)], []⟩
noncomputable def Try.m50.E : Env En.Dop.D7 := envOf Try.prog 50 Try.tb [] Try.m50.p
theorem Try.m50.ok : plnOk En.Dop.D7 Try.prog 50 Try.m50.p = true := by kernel_rfl
noncomputable def Try.m50.c : Ctr En.Dop.D7 := ⟨50, Try.m50.p.bn, Try.m50.p.sp, Try.m50.p.rs, Try.m50.p.flat, .opt (Try.m50.E.run 3000 Try.m50.p.sp)⟩
theorem Try.m50.holds : Try.m50.c.Holds Try.prog := fun_ctr 3000 Try.tbOk hct_nil Try.m50.ok
noncomputable def Try.m50 (a : Int) (b : Int) : Option (Spec.D En.Dop.D7 ⟨[.fd (.int .i64), .fd (.int .i64), .fd .bool], []⟩) := Try.m50.E.run 3000 Try.m50.p.sp ((a, b, ()), ())
noncomputable def Try.m50_3 : Option (Spec.D En.Dop.D7 ⟨[.fd (.int .i64), .fd (.int .i64), .fd .bool], []⟩) := Try.m50.E.cut 3000 3 ((), ())
theorem Try.m50_eq (a : Int) (b : Int) : Try.m50 a b =
  if (decide (b = (0 : Int))) = true then
   Try.m50_3
  else
   if (decide (b ≠ (0 : Int) ∧ inR (a.tdiv b) = true)) = true then
   if (decide (b ≠ (0 : Int))) = true then
   some ((a.tdiv b, (a.tmod b, (true, ()))), ())
   else none
   else none := by kernel_rfl
theorem Try.m50_3_eq : Try.m50_3 =
  some (((0 : Int), ((0 : Int), (false, ()))), ()) := Env.cut_eq' (E := Try.m50.E) (f0 := 3000) (c := 3) (q := ⟨[[0, 0, 1, 2, 0, 1], [0, 1, 1, 2, 0, 1], [3, 0, 1]], [], 0, ⟨[], []⟩⟩) (by kernel_rfl) ((), ()) (by kernel_rfl) (by kernel_rfl)

def Try.m51.p : Pln := ⟨[], 0, ⟨[.fd .bool], []⟩, ⟨[.fd (.int .i64)], []⟩, true, [], []⟩
noncomputable def Try.m51.E : Env En.Dop.D7 := envOf Try.prog 51 Try.tb [] Try.m51.p
theorem Try.m51.ok : plnOk En.Dop.D7 Try.prog 51 Try.m51.p = true := by kernel_rfl
noncomputable def Try.m51.c : Ctr En.Dop.D7 := ⟨51, Try.m51.p.bn, Try.m51.p.sp, Try.m51.p.rs, Try.m51.p.flat, .opt (Try.m51.E.run 3000 Try.m51.p.sp)⟩
theorem Try.m51.holds : Try.m51.c.Holds Try.prog := fun_ctr 3000 Try.tbOk hct_nil Try.m51.ok
noncomputable def Try.m51 (is : Bool) : Option (Spec.D En.Dop.D7 ⟨[.fd (.int .i64)], []⟩) := Try.m51.E.run 3000 Try.m51.p.sp ((is, ()), ())
theorem Try.m51_eq (is : Bool) : Try.m51 is =
  if (is) = true then
   some (((1 : Int), ()), ())
  else
   some (((0 : Int), ()), ()) := by kernel_rfl

def Try.m47.p : Pln := ⟨[(12, ⟨[[0, 0, 0, 1, 1, 1, 1, 1, 1, 1, 0, 1, 0, 1, 1, 1], [0, 1, 0, 1, 1, 1, 1, 1, 1, 1, 0, 1, 0, 1, 1, 1], [1, 0], [0, 1, 1, 1, 1]], [0, 1, 2], 0, ⟨[.fd (.int .i64), .fd (.int .i64), .fd (.int .i64)], []⟩⟩), (16, ⟨[[0, 0, 0, 1, 1, 1, 1, 1, 1, 1, 1, 0, 1, 0, 1, 1, 1], [0, 1, 0, 1, 1, 1, 1, 1, 1, 1, 1, 0, 1, 0, 1, 1, 1], [0, 1, 1, 1, 1, 1, 1, 1, 1, 1, 0, 1, 0, 1, 1, 1], [1, 0], [0, 1, 1, 1, 1]], [0, 1, 2, 8, 19], 0, ⟨[.fd (.int .i64), .fd (.int .i64), .fd (.int .i64), .fn 49 [], .fd (.int .i64)], []⟩⟩), (15, ⟨[[0, 0, 1, 1, 0, 1, 1, 1, 1, 1, 1, 1, 0, 1, 0, 1, 1, 1], [0, 1, 1, 1, 0, 1, 1, 1, 1, 1, 1, 1, 0, 1, 0, 1, 1, 1], [1, 0], [0, 1, 1, 1, 1]], [9, 11], 0, ⟨[.fd (.int .i64), .fd .bool], []⟩⟩), (18, ⟨[[0, 0, 0, 1, 1, 1, 1, 1, 1, 1, 1, 1, 0, 1, 0, 1, 1, 1], [0, 1, 0, 1, 1, 1, 1, 1, 1, 1, 1, 1, 0, 1, 0, 1, 1, 1], [1, 0], [0, 1, 1, 1, 1]], [0, 1, 2], 0, ⟨[.fd (.int .i64), .fd (.int .i64), .fd (.int .i64)], []⟩⟩), (22, ⟨[[0, 0, 1, 1, 1, 1, 1, 1, 1, 1, 1, 1, 0, 1, 0, 1, 1, 1], [0, 1, 1, 1, 1, 1, 1, 1, 1, 1, 1, 1, 0, 1, 0, 1, 1, 1], [1, 0], [0, 1, 1, 1, 1]], [1, 2, 8, 19], 0, ⟨[.fd (.int .i64), .fd (.int .i64), .fn 49 [], .fd (.int .i64)], []⟩⟩), (21, ⟨[[0, 0, 1, 1, 0, 1, 1, 1, 1, 1, 1, 1, 1, 1, 0, 1, 0, 1, 1, 1], [0, 1, 1, 1, 0, 1, 1, 1, 1, 1, 1, 1, 1, 1, 0, 1, 0, 1, 1, 1], [1, 0], [0, 1, 1, 1, 1]], [12, 14], 0, ⟨[.fd (.int .i64), .fd .bool], []⟩⟩)], 0, ⟨[.fd (.int .i64), .fd (.int .i64), .fd (.int .i64)], []⟩, ⟨[.fd (.int .i64), .fd .bool], []⟩, true, [], []⟩
noncomputable def Try.m47.E : Env En.Dop.D7 := envOf Try.prog 47 Try.tb [Try.m39.c, Try.m49.c, Try.m50.c, Try.m46.c, Try.m51.c] Try.m47.p
theorem Try.m47.ok : plnOk En.Dop.D7 Try.prog 47 Try.m47.p = true := by kernel_rfl
noncomputable def Try.m47.c : Ctr En.Dop.D7 := ⟨47, Try.m47.p.bn, Try.m47.p.sp, Try.m47.p.rs, Try.m47.p.flat, .opt (Try.m47.E.run 3000 Try.m47.p.sp)⟩
theorem Try.m47.holds : Try.m47.c.Holds Try.prog := fun_ctr 3000 Try.tbOk (hct_cons Try.m39.holds (hct_cons Try.m49.holds (hct_cons Try.m50.holds (hct_cons Try.m46.holds (hct_cons Try.m51.holds hct_nil))))) Try.m47.ok
noncomputable def Try.m47 (o : Int) (t1 : Int) (t2 : Int) : Option (Spec.D En.Dop.D7 ⟨[.fd (.int .i64), .fd .bool], []⟩) := Try.m47.E.run 3000 Try.m47.p.sp ((o, t1, t2, ()), ())
noncomputable def Try.m47_12 (o : Int) (t1 : Int) (t2 : Int) : Option (Spec.D En.Dop.D7 ⟨[.fd (.int .i64), .fd .bool], []⟩) := Try.m47.E.cut 3000 12 ((o, t1, t2, ()), ())
noncomputable def Try.m47_16 (o : Int) (t1 : Int) (t2 : Int) (t19 : Int) : Option (Spec.D En.Dop.D7 ⟨[.fd (.int .i64), .fd .bool], []⟩) := Try.m47.E.cut 3000 16 ((o, t1, t2, (), t19, ()), ())
noncomputable def Try.m47_15 (t9 : Int) (t11 : Bool) : Option (Spec.D En.Dop.D7 ⟨[.fd (.int .i64), .fd .bool], []⟩) := Try.m47.E.cut 3000 15 ((t9, t11, ()), ())
noncomputable def Try.m47_18 (o : Int) (t1 : Int) (t2 : Int) : Option (Spec.D En.Dop.D7 ⟨[.fd (.int .i64), .fd .bool], []⟩) := Try.m47.E.cut 3000 18 ((o, t1, t2, ()), ())
noncomputable def Try.m47_22 (t1 : Int) (t2 : Int) (t19 : Int) : Option (Spec.D En.Dop.D7 ⟨[.fd (.int .i64), .fd .bool], []⟩) := Try.m47.E.cut 3000 22 ((t1, t2, (), t19, ()), ())
noncomputable def Try.m47_21 (t12 : Int) (t14 : Bool) : Option (Spec.D En.Dop.D7 ⟨[.fd (.int .i64), .fd .bool], []⟩) := Try.m47.E.cut 3000 21 ((t12, t14, ()), ())
theorem Try.m47_eq (o : Int) (t1 : Int) (t2 : Int) : Try.m47 o t1 t2 =
  (Try.m39 (t1)).bind fun y2 =>
   (Try.m39 (t2)).bind fun y3 =>
    if (decide (o = (1 : Int))) = true then
     if (inR (y2.fst.fst + y3.fst.fst)) = true then
     (Try.m49 (y2.fst.fst + y3.fst.fst)).bind fun y5 =>
      some ((y5.fst.fst, (y5.fst.snd.fst, ())), ())
     else none
    else
     if (decide (o = (2 : Int))) = true then
      if (inR (y2.fst.fst - y3.fst.fst)) = true then
      (Try.m49 (y2.fst.fst - y3.fst.fst)).bind fun y6 =>
       some ((y6.fst.fst, (y6.fst.snd.fst, ())), ())
      else none
     else
      if (decide (o = (3 : Int))) = true then
       if (inR (y2.fst.fst * y3.fst.fst)) = true then
       (Try.m49 (y2.fst.fst * y3.fst.fst)).bind fun y7 =>
        some ((y7.fst.fst, (y7.fst.snd.fst, ())), ())
       else none
      else
       if (decide (o = (4 : Int))) = true then
        if (decide (o = (4 : Int))) = true then
         Try.m47_12 (o) (y2.fst.fst) (y3.fst.fst)
        else
         Try.m47_16 (o) (y2.fst.fst) (y3.fst.fst) (o)
       else
        if (decide (o = (5 : Int))) = true then
         Try.m47_12 (o) (y2.fst.fst) (y3.fst.fst)
        else
         Try.m47_16 (o) (y2.fst.fst) (y3.fst.fst) (o) := by kernel_rfl
theorem Try.m47_12_eq (o : Int) (t1 : Int) (t2 : Int) : Try.m47_12 o t1 t2 =
  (Try.m50 (t1) (t2)).bind fun y2 =>
   if (decide (o = (5 : Int))) = true then
    Try.m47_15 (y2.fst.snd.fst) (y2.fst.snd.snd.fst)
   else
    Try.m47_15 (y2.fst.fst) (y2.fst.snd.snd.fst) := Env.cut_eq' (E := Try.m47.E) (f0 := 3000) (c := 12) (q := ⟨[[0, 0, 0, 1, 1, 1, 1, 1, 1, 1, 0, 1, 0, 1, 1, 1], [0, 1, 0, 1, 1, 1, 1, 1, 1, 1, 0, 1, 0, 1, 1, 1], [1, 0], [0, 1, 1, 1, 1]], [0, 1, 2], 0, ⟨[.fd (.int .i64), .fd (.int .i64), .fd (.int .i64)], []⟩⟩) (by kernel_rfl) ((o, t1, t2, ()), ()) (by kernel_rfl) (by kernel_rfl)
theorem Try.m47_16_eq (o : Int) (t1 : Int) (t2 : Int) (t19 : Int) : Try.m47_16 o t1 t2 t19 =
  if (decide (t19 = (6 : Int))) = true then
   if (decide (t19 = (6 : Int))) = true then
    Try.m47_18 (o) (t1) (t2)
   else
    Try.m47_22 (t1) (t2) (t19)
  else
   if (decide (t19 = (7 : Int))) = true then
    Try.m47_18 (o) (t1) (t2)
   else
    Try.m47_22 (t1) (t2) (t19) := Env.cut_eq' (E := Try.m47.E) (f0 := 3000) (c := 16) (q := ⟨[[0, 0, 0, 1, 1, 1, 1, 1, 1, 1, 1, 0, 1, 0, 1, 1, 1], [0, 1, 0, 1, 1, 1, 1, 1, 1, 1, 1, 0, 1, 0, 1, 1, 1], [0, 1, 1, 1, 1, 1, 1, 1, 1, 1, 0, 1, 0, 1, 1, 1], [1, 0], [0, 1, 1, 1, 1]], [0, 1, 2, 8, 19], 0, ⟨[.fd (.int .i64), .fd (.int .i64), .fd (.int .i64), .fn 49 [], .fd (.int .i64)], []⟩⟩) (by kernel_rfl) ((o, t1, t2, (), t19, ()), ()) (by kernel_rfl) (by kernel_rfl)
theorem Try.m47_15_eq (t9 : Int) (t11 : Bool) : Try.m47_15 t9 t11 =
  (Try.m39 (t9)).bind fun y2 =>
   some ((y2.fst.fst, (t11, ())), ()) := Env.cut_eq' (E := Try.m47.E) (f0 := 3000) (c := 15) (q := ⟨[[0, 0, 1, 1, 0, 1, 1, 1, 1, 1, 1, 1, 0, 1, 0, 1, 1, 1], [0, 1, 1, 1, 0, 1, 1, 1, 1, 1, 1, 1, 0, 1, 0, 1, 1, 1], [1, 0], [0, 1, 1, 1, 1]], [9, 11], 0, ⟨[.fd (.int .i64), .fd .bool], []⟩⟩) (by kernel_rfl) ((t9, t11, ()), ()) (by kernel_rfl) (by kernel_rfl)
theorem Try.m47_18_eq (o : Int) (t1 : Int) (t2 : Int) : Try.m47_18 o t1 t2 =
  (Try.m46 (t1)).bind fun y2 =>
   (Try.m46 (t2)).bind fun y3 =>
    (Try.m50 (y2.fst.fst) (y3.fst.fst)).bind fun y4 =>
     if (decide (o = (7 : Int))) = true then
      Try.m47_21 (y4.fst.snd.fst) (y4.fst.snd.snd.fst)
     else
      Try.m47_21 (y4.fst.fst) (y4.fst.snd.snd.fst) := Env.cut_eq' (E := Try.m47.E) (f0 := 3000) (c := 18) (q := ⟨[[0, 0, 0, 1, 1, 1, 1, 1, 1, 1, 1, 1, 0, 1, 0, 1, 1, 1], [0, 1, 0, 1, 1, 1, 1, 1, 1, 1, 1, 1, 0, 1, 0, 1, 1, 1], [1, 0], [0, 1, 1, 1, 1]], [0, 1, 2], 0, ⟨[.fd (.int .i64), .fd (.int .i64), .fd (.int .i64)], []⟩⟩) (by kernel_rfl) ((o, t1, t2, ()), ()) (by kernel_rfl) (by kernel_rfl)
theorem Try.m47_22_eq (t1 : Int) (t2 : Int) (t19 : Int) : Try.m47_22 t1 t2 t19 =
  if (decide (t19 = (8 : Int))) = true then
   (Try.m49 (bits BinOp.and IntKind.i64 t1 t2)).bind fun y3 =>
    some ((y3.fst.fst, (y3.fst.snd.fst, ())), ())
  else
   if (decide (t19 = (9 : Int))) = true then
    (Try.m49 (bits BinOp.or IntKind.i64 t1 t2)).bind fun y4 =>
     some ((y4.fst.fst, (y4.fst.snd.fst, ())), ())
   else
    if (decide (t19 = (10 : Int))) = true then
     (Try.m49 (bits BinOp.xor IntKind.i64 t1 t2)).bind fun y5 =>
      some ((y5.fst.fst, (y5.fst.snd.fst, ())), ())
    else
     if (decide (t19 = (11 : Int))) = true then
      if (decide ((0 : Int) ≤ bits BinOp.and IntKind.i64 t2 (31 : Int) ∧ bits BinOp.and IntKind.i64 t2 (31 : Int) ≤ I IntKind.i64.bits)) = true then
      (Try.m49 (IntKind.i64.wrap (t1 * (2 : Int) ^ (bits BinOp.and IntKind.i64 t2 (31 : Int)).toNat))).bind fun y6 =>
       some ((y6.fst.fst, (y6.fst.snd.fst, ())), ())
      else none
     else
      if (decide (t19 = (12 : Int))) = true then
       if (decide ((0 : Int) ≤ bits BinOp.and IntKind.i64 t2 (31 : Int) ∧ bits BinOp.and IntKind.i64 t2 (31 : Int) ≤ I IntKind.i64.bits)) = true then
       (Try.m49 (t1 / (2 : Int) ^ (bits BinOp.and IntKind.i64 t2 (31 : Int)).toNat)).bind fun y7 =>
        some ((y7.fst.fst, (y7.fst.snd.fst, ())), ())
       else none
      else
       if (decide (t19 = (13 : Int))) = true then
        (Try.m46 (t1)).bind fun y8 =>
         if (decide ((0 : Int) ≤ bits BinOp.and IntKind.i64 t2 (31 : Int) ∧ bits BinOp.and IntKind.i64 t2 (31 : Int) ≤ I IntKind.i64.bits)) = true then
         (Try.m49 (y8.fst.fst / (2 : Int) ^ (bits BinOp.and IntKind.i64 t2 (31 : Int)).toNat)).bind fun y9 =>
          some ((y9.fst.fst, (y9.fst.snd.fst, ())), ())
         else none
       else
        if (decide (t19 = (14 : Int))) = true then
         (Try.m51 (decide (t1 = t2))).bind fun y9 =>
          (Try.m49 (y9.fst.fst)).bind fun y10 =>
           some ((y10.fst.fst, (y10.fst.snd.fst, ())), ())
        else
         if (decide (t19 = (15 : Int))) = true then
          (Try.m51 (!decide (t1 = t2))).bind fun y10 =>
           (Try.m49 (y10.fst.fst)).bind fun y11 =>
            some ((y11.fst.fst, (y11.fst.snd.fst, ())), ())
         else
          if (decide (t19 = (16 : Int))) = true then
           (Try.m51 (decide (t1 < t2))).bind fun y11 =>
            (Try.m49 (y11.fst.fst)).bind fun y12 =>
             some ((y12.fst.fst, (y12.fst.snd.fst, ())), ())
          else
           if (decide (t19 = (17 : Int))) = true then
            (Try.m51 (decide (t1 ≤ t2))).bind fun y12 =>
             (Try.m49 (y12.fst.fst)).bind fun y13 =>
              some ((y13.fst.fst, (y13.fst.snd.fst, ())), ())
           else
            if (decide (t19 = (18 : Int))) = true then
             (Try.m46 (t1)).bind fun y13 =>
              (Try.m46 (t2)).bind fun y14 =>
               (Try.m51 (decide (y13.fst.fst < y14.fst.fst))).bind fun y15 =>
                (Try.m49 (y15.fst.fst)).bind fun y16 =>
                 some ((y16.fst.fst, (y16.fst.snd.fst, ())), ())
            else
             if (decide (t19 = (19 : Int))) = true then
              (Try.m46 (t1)).bind fun y14 =>
               (Try.m46 (t2)).bind fun y15 =>
                (Try.m51 (decide (y14.fst.fst ≤ y15.fst.fst))).bind fun y16 =>
                 (Try.m49 (y16.fst.fst)).bind fun y17 =>
                  some ((y17.fst.fst, (y17.fst.snd.fst, ())), ())
             else
              if (decide (t19 = (20 : Int))) = true then
               if (inR (-t1)) = true then
               (Try.m49 (-t1)).bind fun y15 =>
                some ((y15.fst.fst, (y15.fst.snd.fst, ())), ())
               else none
              else
               if (decide (t19 = (21 : Int))) = true then
                (Try.m49 (bits BinOp.xor IntKind.i64 (-1 : Int) t1)).bind fun y16 =>
                 some ((y16.fst.fst, (y16.fst.snd.fst, ())), ())
               else
                if (decide (t19 = (22 : Int))) = true then
                 (Try.m49 (bits BinOp.and IntKind.i64 t1 (255 : Int))).bind fun y17 =>
                  some ((y17.fst.fst, (y17.fst.snd.fst, ())), ())
                else
                 if (decide (t19 = (23 : Int))) = true then
                  (Try.m51 (decide (t1 = (0 : Int)))).bind fun y18 =>
                   (Try.m49 (y18.fst.fst)).bind fun y19 =>
                    some ((y19.fst.fst, (y19.fst.snd.fst, ())), ())
                 else
                  some (((0 : Int), (false, ())), ()) := Env.cut_eq' (E := Try.m47.E) (f0 := 3000) (c := 22) (q := ⟨[[0, 0, 1, 1, 1, 1, 1, 1, 1, 1, 1, 1, 0, 1, 0, 1, 1, 1], [0, 1, 1, 1, 1, 1, 1, 1, 1, 1, 1, 1, 0, 1, 0, 1, 1, 1], [1, 0], [0, 1, 1, 1, 1]], [1, 2, 8, 19], 0, ⟨[.fd (.int .i64), .fd (.int .i64), .fn 49 [], .fd (.int .i64)], []⟩⟩) (by kernel_rfl) ((t1, t2, (), t19, ()), ()) (by kernel_rfl) (by kernel_rfl)
theorem Try.m47_21_eq (t12 : Int) (t14 : Bool) : Try.m47_21 t12 t14 =
  (Try.m39 (t12)).bind fun y2 =>
   some ((y2.fst.fst, (t14, ())), ()) := Env.cut_eq' (E := Try.m47.E) (f0 := 3000) (c := 21) (q := ⟨[[0, 0, 1, 1, 0, 1, 1, 1, 1, 1, 1, 1, 1, 1, 0, 1, 0, 1, 1, 1], [0, 1, 1, 1, 0, 1, 1, 1, 1, 1, 1, 1, 1, 1, 0, 1, 0, 1, 1, 1], [1, 0], [0, 1, 1, 1, 1]], [12, 14], 0, ⟨[.fd (.int .i64), .fd .bool], []⟩⟩) (by kernel_rfl) ((t12, t14, ()), ()) (by kernel_rfl) (by kernel_rfl)

def Try.m27.p : Pln := ⟨[(8, ⟨[[0, 0, 1, 1, 0, 1, 1, 1, 1], [0, 1, 1, 1, 0, 1, 1, 1, 1], [1, 0]], [0, 2, 3, 37], 3, ⟨[.al 0 0, .ep 1 9 0, .al 2 0, .fd (.int .i64)], [⟨0, 58, [.mp (.str) 4 true, .own 0 3, .fd (.int .i64), .fd (.sl 2), .rw 1, .fd .bool, .fd (.int .i64), .fd (.int .i64), .own 2 5], false⟩, ⟨1, 0, [.dp 7 67], true⟩, ⟨2, 46, [.st 3], false⟩]⟩⟩), (11, ⟨[[0, 0, 0, 0, 1, 0, 1, 0, 1, 1, 1, 0, 1, 1, 1, 1], [0, 1, 0, 0, 1, 0, 1, 0, 1, 1, 1, 0, 1, 1, 1, 1], [2, 0, 0, 1, 0, 1, 0, 1, 1, 1, 0, 1, 1, 1, 1], [1, 1], [0, 1, 1, 0, 1, 1, 1, 0, 1, 1, 1, 1], [1, 0]], [0, 2, 3, 4, 52, 53, 54], 3, ⟨[.al 0 0, .ep 1 9 0, .al 2 0, .own 0 3, .own 0 3, .fd (.int .i64), .fd (.int .i64)], [⟨0, 58, [.mp (.str) 4 true, .own 0 3, .fd (.int .i64), .fd (.sl 2), .rw 1, .fd .bool, .fd (.int .i64), .fd (.int .i64), .own 2 5], false⟩, ⟨1, 0, [.dp 7 67], true⟩, ⟨2, 46, [.st 3], false⟩]⟩⟩)], 1, ⟨[.al 0 0], [⟨0, 58, [.mp (.str) 4 true, .own 0 3, .st 0, .fd (.sl 2), .dp 7 67, .fd .bool, .st 0, .st 0, .own 2 5], false⟩]⟩, ⟨[], [⟨0, 58, [.mp (.str) 4 true, .own 0 3, .fd (.int .i64), .fd (.sl 2), .dp 7 67, .fd .bool, .fd (.int .i64), .fd (.int .i64), .own 2 5], false⟩]⟩, false, [(0, ⟨[(0, true), (1, true), (2, true), (3, false), (4, true), (5, true), (6, true), (7, false), (8, false), (9, true), (10, false), (11, true)], [], [0, 1, 3, 7, 0, 16, 48, 112, 240, 496, 1023, 2047], false⟩), (1, ⟨[(0, true), (1, false), (2, false), (3, false), (4, false), (5, true), (6, false), (7, false), (8, false), (9, false), (10, false), (11, false)], [12], [0, 1, 3, 7, 15, 0, 32, 96, 224, 511, 1023, 0, 4095], false⟩), (15, ⟨[(0, true), (1, true), (2, true), (3, true), (4, false), (5, true), (6, false), (7, false), (8, true), (9, false), (10, true)], [11], [0, 0, 2, 6, 14, 0, 32, 126, 0, 256, 0, 2047], true⟩), (17, ⟨[(0, true), (1, false), (2, false), (3, false), (4, true), (5, false), (6, false)], [7], [0, 1, 3, 7, 0, 16, 63, 127], false⟩), (19, ⟨[(0, true), (1, false), (2, false), (3, false), (4, true), (5, false), (6, true), (7, true), (8, true), (9, true), (10, false), (11, false), (12, false), (13, true), (14, true), (15, true), (16, true), (17, false), (18, true), (19, false)], [20, 21, 22, 23], [0, 1, 3, 7, 0, 16, 0, 0, 128, 384, 896, 1920, 3968, 8064, 0, 16384, 49152, 114688, 245760, 262079, 786367, 2097151, 4194303, 8388607], false⟩), (21, ⟨[(0, true), (1, true), (2, true), (3, true), (4, true), (5, false), (6, true), (7, false), (8, false), (9, false), (10, true), (11, false), (12, false), (13, false), (14, true), (15, false)], [16, 17, 18, 19, 20], [0, 0, 2, 6, 14, 30, 0, 64, 192, 448, 0, 1024, 4032, 8128, 16320, 32704, 65534, 131071, 262143, 524287, 1048575], false⟩), (26, ⟨[(0, true), (1, false), (2, false), (3, false), (4, true), (5, false), (6, false), (7, false), (8, true)], [], [0, 1, 3, 7, 0, 16, 63, 127, 255], false⟩), (29, ⟨[(0, true), (1, true), (2, false), (3, false), (4, false), (5, true), (6, false), (7, false), (8, false)], [9], [0, 0, 2, 6, 14, 0, 32, 126, 254, 511], false⟩)], [(40, [(1, ⟨[(0, true), (1, true), (2, true), (3, false), (4, true), (5, false), (6, false), (7, false), (8, false), (9, true)], [], [0, 1, 3, 7, 0, 16, 63, 127, 255, 511], false⟩), (6, ⟨[(0, true), (1, true), (2, true), (3, false), (4, true), (5, false), (6, true), (7, true), (8, true), (9, false), (10, true), (11, false), (12, false), (13, false)], [14], [0, 1, 3, 7, 0, 16, 0, 64, 192, 448, 0, 1984, 4032, 8191, 16383], false⟩), (2, ⟨[(0, true), (1, true), (2, true), (3, false), (4, true), (5, true), (6, true), (7, true), (8, false), (9, true), (10, false), (11, false), (12, false), (13, false)], [14], [0, 1, 3, 7, 0, 0, 32, 96, 224, 0, 512, 2016, 4064, 8191, 16383], false⟩)]), (28, []), (26, [(1, ⟨[(0, true), (1, true), (2, true), (3, false), (4, true), (5, false), (6, true), (7, true), (8, true), (9, true), (10, false), (11, false), (12, true)], [], [0, 1, 3, 7, 0, 16, 63, 0, 128, 384, 896, 1920, 4095], false⟩), (3, ⟨[(0, false), (1, true), (2, false), (3, false), (4, true), (5, true), (6, true), (7, false), (8, true), (9, true), (10, false)], [11], [0, 0, 2, 6, 0, 16, 48, 112, 0, 511, 0, 2047], false⟩), (5, ⟨[(0, true), (1, true), (2, true), (3, false), (4, true), (5, false), (6, true), (7, true), (8, true)], [9], [0, 1, 3, 7, 0, 16, 63, 127, 255, 511], false⟩), (6, ⟨[(0, true), (1, true), (2, true), (3, true), (4, false), (5, false), (6, false)], [7, 8, 9, 10], [0, 0, 2, 6, 14, 0, 32, 126, 255, 511, 1023], false⟩)]), (41, [(0, ⟨[(0, true), (1, true), (2, true), (3, false), (4, true), (5, true), (6, true), (7, false), (8, false), (9, true), (10, false), (11, false), (12, false)], [13], [0, 1, 3, 7, 0, 16, 48, 112, 240, 496, 1023, 2047, 0, 8191], false⟩), (1, ⟨[(0, true), (1, true), (2, true), (3, false), (4, true), (5, true), (6, false), (7, true), (8, true), (9, true)], [10], [0, 1, 3, 7, 0, 16, 48, 127, 255, 511, 1023], false⟩), (2, ⟨[(0, true), (1, true), (2, true), (3, true), (4, false), (5, true), (6, true), (7, true), (8, false), (9, false), (10, true)], [11, 12, 13, 14], [0, 0, 2, 6, 14, 0, 32, 96, 224, 480, 992, 2046, 4095, 8191, 16383], false⟩), (6, ⟨[(0, true), (1, true), (2, true), (3, false), (4, true), (5, true), (6, true), (7, false), (8, false), (9, true), (10, false), (11, false), (12, false), (13, true), (14, false), (15, true), (16, false)], [17], [0, 1, 3, 7, 0, 16, 48, 112, 240, 496, 1023, 2047, 4095, 0, 8192, 0, 65535, 131071], false⟩)]), (42, [(3, ⟨[(0, true), (1, true), (2, true), (3, false), (4, true), (5, false), (6, true), (7, false), (8, false)], [9], [0, 1, 3, 7, 0, 16, 0, 64, 255, 511], false⟩), (5, ⟨[(0, true), (1, true), (2, true), (3, false), (4, true), (5, false), (6, true), (7, true), (8, true), (9, false), (10, true), (11, false), (12, false), (13, false), (14, false)], [15], [0, 1, 3, 7, 0, 16, 0, 64, 192, 448, 0, 1024, 4032, 8128, 16383, 32767], false⟩), (7, ⟨[(0, true), (1, true), (2, true), (3, false), (4, true), (5, false), (6, true), (7, true), (8, true), (9, false), (10, true), (11, false), (12, true), (13, false), (14, false)], [15], [0, 1, 3, 7, 0, 16, 0, 64, 192, 448, 0, 1024, 4032, 8128, 16383, 32767], false⟩), (12, ⟨[(0, true), (1, true), (2, true), (3, false), (4, true), (5, false), (6, false), (7, false), (8, true)], [], [0, 1, 3, 7, 0, 16, 63, 127, 255], false⟩), (13, ⟨[(0, true), (1, false), (2, true), (3, true), (4, true), (5, false), (6, true), (7, false), (8, false), (9, false), (10, true), (11, false), (12, true), (13, true), (14, true), (15, true), (16, true)], [], [0, 1, 0, 4, 12, 28, 0, 64, 252, 508, 0, 2047, 4095, 8191, 8191, 16383, 65535], false⟩), (16, ⟨[(0, true), (1, true), (2, true), (3, false), (4, true), (5, false), (6, true), (7, false)], [8], [0, 1, 3, 7, 0, 16, 0, 127, 255], false⟩)])]⟩
noncomputable def Try.m27.E : Env En.Dop.D7 := envOf Try.prog 27 Try.tb [Try.m46.c, Try.m34.c, Try.m39.c, Try.m47.c] Try.m27.p
theorem Try.m27.ok : plnOk En.Dop.D7 Try.prog 27 Try.m27.p = true := by kernel_rfl
noncomputable def Try.m27.c : Ctr En.Dop.D7 := ⟨27, Try.m27.p.bn, Try.m27.p.sp, Try.m27.p.rs, Try.m27.p.flat, .opt (Try.m27.E.run 3000 Try.m27.p.sp)⟩
theorem Try.m27.holds : Try.m27.c.Holds Try.prog := fun_ctr 3000 Try.tbOk (hct_cons Try.m46.holds (hct_cons Try.m34.holds (hct_cons Try.m39.holds (hct_cons Try.m47.holds hct_nil)))) Try.m27.ok
noncomputable def Try.m27 (b0_0 : List (List UInt8 × En.Dop.Fnc)) (b0_1 : List (Int)) (b0_2 : Int) (b0_3 : List (Int)) (b0_4 : List (En.Dop.Frm)) (b0_5 : Bool) (b0_6 : Int) (b0_7 : Int) (b0_8 : List (Int)) : Option (Spec.D En.Dop.D7 ⟨[], [⟨0, 58, [.mp (.str) 4 true, .own 0 3, .fd (.int .i64), .fd (.sl 2), .dp 7 67, .fd .bool, .fd (.int .i64), .fd (.int .i64), .own 2 5], false⟩]⟩) := Try.m27.E.run 3000 Try.m27.p.sp (((), ()), ((b0_0, b0_1, b0_2, b0_3, b0_4, b0_5, b0_6, b0_7, b0_8, ()), ()))
noncomputable def Try.m27_8 (t2 : Nat) (t37 : Int) (b0_0 : List (List UInt8 × En.Dop.Fnc)) (b0_1 : List (Int)) (b0_2 : Int) (b0_3 : List (Int)) (b0_5 : Bool) (b0_6 : Int) (b0_7 : Int) (b0_8 : List (Int)) (b1 : List (En.Dop.Frm)) (b2 : En.Dop.Ins) : Option (Spec.D En.Dop.D7 ⟨[], [⟨0, 58, [.mp (.str) 4 true, .own 0 3, .fd (.int .i64), .fd (.sl 2), .dp 7 67, .fd .bool, .fd (.int .i64), .fd (.int .i64), .own 2 5], false⟩]⟩) := Try.m27.E.cut 3000 8 (((), t2, (), t37, ()), ((b0_0, b0_1, b0_2, b0_3, (), b0_5, b0_6, b0_7, b0_8, ()), (b1, ()), (b2, ()), ()))
noncomputable def Try.m27_11 (t2 : Nat) (t4 : List (Int)) (t52 : List (Int)) (t53 : Int) (t54 : Int) (b0_0 : List (List UInt8 × En.Dop.Fnc)) (b0_1 : List (Int)) (b0_2 : Int) (b0_3 : List (Int)) (b0_5 : Bool) (b0_6 : Int) (b0_7 : Int) (b0_8 : List (Int)) (b1 : List (En.Dop.Frm)) (b2 : En.Dop.Ins) : Option (Spec.D En.Dop.D7 ⟨[], [⟨0, 58, [.mp (.str) 4 true, .own 0 3, .fd (.int .i64), .fd (.sl 2), .dp 7 67, .fd .bool, .fd (.int .i64), .fd (.int .i64), .own 2 5], false⟩]⟩) := Try.m27.E.cut 3000 11 (((), t2, (), t4, t52, t53, t54, ()), ((b0_0, b0_1, b0_2, b0_3, (), b0_5, b0_6, b0_7, b0_8, ()), (b1, ()), (b2, ()), ()))
theorem Try.m27_eq (b0_0 : List (List UInt8 × En.Dop.Fnc)) (b0_1 : List (Int)) (b0_2 : Int) (b0_3 : List (Int)) (b0_4 : List (En.Dop.Frm)) (b0_5 : Bool) (b0_6 : Int) (b0_7 : Int) (b0_8 : List (Int)) : Try.m27 b0_0 b0_1 b0_2 b0_3 b0_4 b0_5 b0_6 b0_7 b0_8 =
  if (inR (I b0_4.length - (1 : Int))) = true then
  if (decide ((0 : Int) ≤ I b0_4.length - (1 : Int) ∧ I b0_4.length - (1 : Int) < I b0_4.length)) = true then
  if (decide ((I b0_4.length - (1 : Int)).toNat < b0_4.length)) = true then
  if (decide ((I b0_4.length - (1 : Int)).toNat < b0_4.length)) = true then
  if (decide ((0 : Int) ≤ (b0_4.getD (I b0_4.length - (1 : Int)).toNat Dop.d7).at_ ∧ (b0_4.getD (I b0_4.length - (1 : Int)).toNat Dop.d7).at_ < I (b0_4.getD (I b0_4.length - (1 : Int)).toNat Dop.d7).f.code.length)) = true then
  if (decide ((I b0_4.length - (1 : Int)).toNat < b0_4.length)) = true then
  if (inR ((b0_4.getD (I b0_4.length - (1 : Int)).toNat Dop.d7).at_ + (1 : Int))) = true then
  if (decide ((I b0_4.length - (1 : Int)).toNat < b0_4.length)) = true then
  if (decide (((b0_4.getD (I b0_4.length - (1 : Int)).toNat Dop.d7).f.code.getD (b0_4.getD (I b0_4.length - (1 : Int)).toNat Dop.d7).at_.toNat Dop.d3).kind = (6 : Int))) = true then
   if (decide (((b0_4.getD (I b0_4.length - (1 : Int)).toNat Dop.d7).f.code.getD (b0_4.getD (I b0_4.length - (1 : Int)).toNat Dop.d7).at_.toNat Dop.d3).kind = (6 : Int))) = true then
    if (decide ((I b0_4.length - (1 : Int)).toNat < (b0_4.set (I b0_4.length - (1 : Int)).toNat (Dop.Frm.mk (b0_4.getD (I b0_4.length - (1 : Int)).toNat Dop.d7).f (b0_4.getD (I b0_4.length - (1 : Int)).toNat Dop.d7).regs (b0_4.getD (I b0_4.length - (1 : Int)).toNat Dop.d7).base ((b0_4.getD (I b0_4.length - (1 : Int)).toNat Dop.d7).at_ + (1 : Int)) (b0_4.getD (I b0_4.length - (1 : Int)).toNat Dop.d7).dst)).length)) = true then
    if (decide ((I b0_4.length - (1 : Int)).toNat < (b0_4.set (I b0_4.length - (1 : Int)).toNat (Dop.Frm.mk (b0_4.getD (I b0_4.length - (1 : Int)).toNat Dop.d7).f (b0_4.getD (I b0_4.length - (1 : Int)).toNat Dop.d7).regs (b0_4.getD (I b0_4.length - (1 : Int)).toNat Dop.d7).base ((b0_4.getD (I b0_4.length - (1 : Int)).toNat Dop.d7).at_ + (1 : Int)) (b0_4.getD (I b0_4.length - (1 : Int)).toNat Dop.d7).dst)).length ∧ (0 : Int) ≤ ((b0_4.getD (I b0_4.length - (1 : Int)).toNat Dop.d7).f.code.getD (b0_4.getD (I b0_4.length - (1 : Int)).toNat Dop.d7).at_.toNat Dop.d3).a ∧ ((b0_4.getD (I b0_4.length - (1 : Int)).toNat Dop.d7).f.code.getD (b0_4.getD (I b0_4.length - (1 : Int)).toNat Dop.d7).at_.toNat Dop.d3).a < I ((b0_4.set (I b0_4.length - (1 : Int)).toNat (Dop.Frm.mk (b0_4.getD (I b0_4.length - (1 : Int)).toNat Dop.d7).f (b0_4.getD (I b0_4.length - (1 : Int)).toNat Dop.d7).regs (b0_4.getD (I b0_4.length - (1 : Int)).toNat Dop.d7).base ((b0_4.getD (I b0_4.length - (1 : Int)).toNat Dop.d7).at_ + (1 : Int)) (b0_4.getD (I b0_4.length - (1 : Int)).toNat Dop.d7).dst)).getD (I b0_4.length - (1 : Int)).toNat Dop.d7).regs.length)) = true then
    if (decide ((I b0_4.length - (1 : Int)).toNat < (b0_4.set (I b0_4.length - (1 : Int)).toNat (Dop.Frm.mk (b0_4.getD (I b0_4.length - (1 : Int)).toNat Dop.d7).f (b0_4.getD (I b0_4.length - (1 : Int)).toNat Dop.d7).regs (b0_4.getD (I b0_4.length - (1 : Int)).toNat Dop.d7).base ((b0_4.getD (I b0_4.length - (1 : Int)).toNat Dop.d7).at_ + (1 : Int)) (b0_4.getD (I b0_4.length - (1 : Int)).toNat Dop.d7).dst)).length) && decide (((b0_4.getD (I b0_4.length - (1 : Int)).toNat Dop.d7).f.code.getD (b0_4.getD (I b0_4.length - (1 : Int)).toNat Dop.d7).at_.toNat Dop.d3).a.toNat < ((b0_4.set (I b0_4.length - (1 : Int)).toNat (Dop.Frm.mk (b0_4.getD (I b0_4.length - (1 : Int)).toNat Dop.d7).f (b0_4.getD (I b0_4.length - (1 : Int)).toNat Dop.d7).regs (b0_4.getD (I b0_4.length - (1 : Int)).toNat Dop.d7).base ((b0_4.getD (I b0_4.length - (1 : Int)).toNat Dop.d7).at_ + (1 : Int)) (b0_4.getD (I b0_4.length - (1 : Int)).toNat Dop.d7).dst)).getD (I b0_4.length - (1 : Int)).toNat Dop.d7).regs.length)) = true then
    (Try.m46 (((b0_4.set (I b0_4.length - (1 : Int)).toNat (Dop.Frm.mk (b0_4.getD (I b0_4.length - (1 : Int)).toNat Dop.d7).f (b0_4.getD (I b0_4.length - (1 : Int)).toNat Dop.d7).regs (b0_4.getD (I b0_4.length - (1 : Int)).toNat Dop.d7).base ((b0_4.getD (I b0_4.length - (1 : Int)).toNat Dop.d7).at_ + (1 : Int)) (b0_4.getD (I b0_4.length - (1 : Int)).toNat Dop.d7).dst)).getD (I b0_4.length - (1 : Int)).toNat Dop.d7).regs.getD ((b0_4.getD (I b0_4.length - (1 : Int)).toNat Dop.d7).f.code.getD (b0_4.getD (I b0_4.length - (1 : Int)).toNat Dop.d7).at_.toNat Dop.d3).a.toNat (0 : Int))).bind fun y4 =>
     if (decide (y4.fst.fst < (1 : Int))) = true then
      some ((), ((b0_0, (b0_1, (b0_2, (b0_3, (b0_4.set (I b0_4.length - (1 : Int)).toNat (Dop.Frm.mk (b0_4.getD (I b0_4.length - (1 : Int)).toNat Dop.d7).f (b0_4.getD (I b0_4.length - (1 : Int)).toNat Dop.d7).regs (b0_4.getD (I b0_4.length - (1 : Int)).toNat Dop.d7).base ((b0_4.getD (I b0_4.length - (1 : Int)).toNat Dop.d7).at_ + (1 : Int)) (b0_4.getD (I b0_4.length - (1 : Int)).toNat Dop.d7).dst), (true, ((2 : Int), ((1 : Int), (b0_8, ()))))))))), ()))
     else
      if (decide (I b0_1.length ≤ y4.fst.fst)) = true then
       some ((), ((b0_0, (b0_1, (b0_2, (b0_3, (b0_4.set (I b0_4.length - (1 : Int)).toNat (Dop.Frm.mk (b0_4.getD (I b0_4.length - (1 : Int)).toNat Dop.d7).f (b0_4.getD (I b0_4.length - (1 : Int)).toNat Dop.d7).regs (b0_4.getD (I b0_4.length - (1 : Int)).toNat Dop.d7).base ((b0_4.getD (I b0_4.length - (1 : Int)).toNat Dop.d7).at_ + (1 : Int)) (b0_4.getD (I b0_4.length - (1 : Int)).toNat Dop.d7).dst), (true, ((2 : Int), ((1 : Int), (b0_8, ()))))))))), ()))
      else
       if (decide (((b0_4.getD (I b0_4.length - (1 : Int)).toNat Dop.d7).f.code.getD (b0_4.getD (I b0_4.length - (1 : Int)).toNat Dop.d7).at_.toNat Dop.d3).kind = (6 : Int))) = true then
        if (decide ((I b0_4.length - (1 : Int)).toNat < (b0_4.set (I b0_4.length - (1 : Int)).toNat (Dop.Frm.mk (b0_4.getD (I b0_4.length - (1 : Int)).toNat Dop.d7).f (b0_4.getD (I b0_4.length - (1 : Int)).toNat Dop.d7).regs (b0_4.getD (I b0_4.length - (1 : Int)).toNat Dop.d7).base ((b0_4.getD (I b0_4.length - (1 : Int)).toNat Dop.d7).at_ + (1 : Int)) (b0_4.getD (I b0_4.length - (1 : Int)).toNat Dop.d7).dst)).length)) = true then
        if (decide ((0 : Int) ≤ y4.fst.fst ∧ y4.fst.fst < I b0_1.length)) = true then
        if (decide (y4.fst.fst.toNat < b0_1.length)) = true then
        if (decide ((I b0_4.length - (1 : Int)).toNat < (b0_4.set (I b0_4.length - (1 : Int)).toNat (Dop.Frm.mk (b0_4.getD (I b0_4.length - (1 : Int)).toNat Dop.d7).f (b0_4.getD (I b0_4.length - (1 : Int)).toNat Dop.d7).regs (b0_4.getD (I b0_4.length - (1 : Int)).toNat Dop.d7).base ((b0_4.getD (I b0_4.length - (1 : Int)).toNat Dop.d7).at_ + (1 : Int)) (b0_4.getD (I b0_4.length - (1 : Int)).toNat Dop.d7).dst)).length ∧ (0 : Int) ≤ ((b0_4.getD (I b0_4.length - (1 : Int)).toNat Dop.d7).f.code.getD (b0_4.getD (I b0_4.length - (1 : Int)).toNat Dop.d7).at_.toNat Dop.d3).dst ∧ ((b0_4.getD (I b0_4.length - (1 : Int)).toNat Dop.d7).f.code.getD (b0_4.getD (I b0_4.length - (1 : Int)).toNat Dop.d7).at_.toNat Dop.d3).dst < I ((b0_4.set (I b0_4.length - (1 : Int)).toNat (Dop.Frm.mk (b0_4.getD (I b0_4.length - (1 : Int)).toNat Dop.d7).f (b0_4.getD (I b0_4.length - (1 : Int)).toNat Dop.d7).regs (b0_4.getD (I b0_4.length - (1 : Int)).toNat Dop.d7).base ((b0_4.getD (I b0_4.length - (1 : Int)).toNat Dop.d7).at_ + (1 : Int)) (b0_4.getD (I b0_4.length - (1 : Int)).toNat Dop.d7).dst)).getD (I b0_4.length - (1 : Int)).toNat Dop.d7).regs.length)) = true then
        if (decide ((I b0_4.length - (1 : Int)).toNat < (b0_4.set (I b0_4.length - (1 : Int)).toNat (Dop.Frm.mk (b0_4.getD (I b0_4.length - (1 : Int)).toNat Dop.d7).f (b0_4.getD (I b0_4.length - (1 : Int)).toNat Dop.d7).regs (b0_4.getD (I b0_4.length - (1 : Int)).toNat Dop.d7).base ((b0_4.getD (I b0_4.length - (1 : Int)).toNat Dop.d7).at_ + (1 : Int)) (b0_4.getD (I b0_4.length - (1 : Int)).toNat Dop.d7).dst)).length ∧ ((b0_4.getD (I b0_4.length - (1 : Int)).toNat Dop.d7).f.code.getD (b0_4.getD (I b0_4.length - (1 : Int)).toNat Dop.d7).at_.toNat Dop.d3).dst.toNat < ((b0_4.set (I b0_4.length - (1 : Int)).toNat (Dop.Frm.mk (b0_4.getD (I b0_4.length - (1 : Int)).toNat Dop.d7).f (b0_4.getD (I b0_4.length - (1 : Int)).toNat Dop.d7).regs (b0_4.getD (I b0_4.length - (1 : Int)).toNat Dop.d7).base ((b0_4.getD (I b0_4.length - (1 : Int)).toNat Dop.d7).at_ + (1 : Int)) (b0_4.getD (I b0_4.length - (1 : Int)).toNat Dop.d7).dst)).getD (I b0_4.length - (1 : Int)).toNat Dop.d7).regs.length)) = true then
        some ((), ((b0_0, (b0_1, (b0_2, (b0_3, ((b0_4.set (I b0_4.length - (1 : Int)).toNat (Dop.Frm.mk (b0_4.getD (I b0_4.length - (1 : Int)).toNat Dop.d7).f (b0_4.getD (I b0_4.length - (1 : Int)).toNat Dop.d7).regs (b0_4.getD (I b0_4.length - (1 : Int)).toNat Dop.d7).base ((b0_4.getD (I b0_4.length - (1 : Int)).toNat Dop.d7).at_ + (1 : Int)) (b0_4.getD (I b0_4.length - (1 : Int)).toNat Dop.d7).dst)).set (I b0_4.length - (1 : Int)).toNat (Dop.Frm.mk ((b0_4.set (I b0_4.length - (1 : Int)).toNat (Dop.Frm.mk (b0_4.getD (I b0_4.length - (1 : Int)).toNat Dop.d7).f (b0_4.getD (I b0_4.length - (1 : Int)).toNat Dop.d7).regs (b0_4.getD (I b0_4.length - (1 : Int)).toNat Dop.d7).base ((b0_4.getD (I b0_4.length - (1 : Int)).toNat Dop.d7).at_ + (1 : Int)) (b0_4.getD (I b0_4.length - (1 : Int)).toNat Dop.d7).dst)).getD (I b0_4.length - (1 : Int)).toNat Dop.d7).f (((b0_4.set (I b0_4.length - (1 : Int)).toNat (Dop.Frm.mk (b0_4.getD (I b0_4.length - (1 : Int)).toNat Dop.d7).f (b0_4.getD (I b0_4.length - (1 : Int)).toNat Dop.d7).regs (b0_4.getD (I b0_4.length - (1 : Int)).toNat Dop.d7).base ((b0_4.getD (I b0_4.length - (1 : Int)).toNat Dop.d7).at_ + (1 : Int)) (b0_4.getD (I b0_4.length - (1 : Int)).toNat Dop.d7).dst)).getD (I b0_4.length - (1 : Int)).toNat Dop.d7).regs.set ((b0_4.getD (I b0_4.length - (1 : Int)).toNat Dop.d7).f.code.getD (b0_4.getD (I b0_4.length - (1 : Int)).toNat Dop.d7).at_.toNat Dop.d3).dst.toNat (b0_1.getD y4.fst.fst.toNat (0 : Int))) ((b0_4.set (I b0_4.length - (1 : Int)).toNat (Dop.Frm.mk (b0_4.getD (I b0_4.length - (1 : Int)).toNat Dop.d7).f (b0_4.getD (I b0_4.length - (1 : Int)).toNat Dop.d7).regs (b0_4.getD (I b0_4.length - (1 : Int)).toNat Dop.d7).base ((b0_4.getD (I b0_4.length - (1 : Int)).toNat Dop.d7).at_ + (1 : Int)) (b0_4.getD (I b0_4.length - (1 : Int)).toNat Dop.d7).dst)).getD (I b0_4.length - (1 : Int)).toNat Dop.d7).base ((b0_4.set (I b0_4.length - (1 : Int)).toNat (Dop.Frm.mk (b0_4.getD (I b0_4.length - (1 : Int)).toNat Dop.d7).f (b0_4.getD (I b0_4.length - (1 : Int)).toNat Dop.d7).regs (b0_4.getD (I b0_4.length - (1 : Int)).toNat Dop.d7).base ((b0_4.getD (I b0_4.length - (1 : Int)).toNat Dop.d7).at_ + (1 : Int)) (b0_4.getD (I b0_4.length - (1 : Int)).toNat Dop.d7).dst)).getD (I b0_4.length - (1 : Int)).toNat Dop.d7).at_ ((b0_4.set (I b0_4.length - (1 : Int)).toNat (Dop.Frm.mk (b0_4.getD (I b0_4.length - (1 : Int)).toNat Dop.d7).f (b0_4.getD (I b0_4.length - (1 : Int)).toNat Dop.d7).regs (b0_4.getD (I b0_4.length - (1 : Int)).toNat Dop.d7).base ((b0_4.getD (I b0_4.length - (1 : Int)).toNat Dop.d7).at_ + (1 : Int)) (b0_4.getD (I b0_4.length - (1 : Int)).toNat Dop.d7).dst)).getD (I b0_4.length - (1 : Int)).toNat Dop.d7).dst), (b0_5, (b0_6, (b0_7, (b0_8, ()))))))))), ()))
        else none
        else none
        else none
        else none
        else none
       else
        if (decide ((I b0_4.length - (1 : Int)).toNat < (b0_4.set (I b0_4.length - (1 : Int)).toNat (Dop.Frm.mk (b0_4.getD (I b0_4.length - (1 : Int)).toNat Dop.d7).f (b0_4.getD (I b0_4.length - (1 : Int)).toNat Dop.d7).regs (b0_4.getD (I b0_4.length - (1 : Int)).toNat Dop.d7).base ((b0_4.getD (I b0_4.length - (1 : Int)).toNat Dop.d7).at_ + (1 : Int)) (b0_4.getD (I b0_4.length - (1 : Int)).toNat Dop.d7).dst)).length)) = true then
        if (decide ((I b0_4.length - (1 : Int)).toNat < (b0_4.set (I b0_4.length - (1 : Int)).toNat (Dop.Frm.mk (b0_4.getD (I b0_4.length - (1 : Int)).toNat Dop.d7).f (b0_4.getD (I b0_4.length - (1 : Int)).toNat Dop.d7).regs (b0_4.getD (I b0_4.length - (1 : Int)).toNat Dop.d7).base ((b0_4.getD (I b0_4.length - (1 : Int)).toNat Dop.d7).at_ + (1 : Int)) (b0_4.getD (I b0_4.length - (1 : Int)).toNat Dop.d7).dst)).length ∧ (0 : Int) ≤ ((b0_4.getD (I b0_4.length - (1 : Int)).toNat Dop.d7).f.code.getD (b0_4.getD (I b0_4.length - (1 : Int)).toNat Dop.d7).at_.toNat Dop.d3).b ∧ ((b0_4.getD (I b0_4.length - (1 : Int)).toNat Dop.d7).f.code.getD (b0_4.getD (I b0_4.length - (1 : Int)).toNat Dop.d7).at_.toNat Dop.d3).b < I ((b0_4.set (I b0_4.length - (1 : Int)).toNat (Dop.Frm.mk (b0_4.getD (I b0_4.length - (1 : Int)).toNat Dop.d7).f (b0_4.getD (I b0_4.length - (1 : Int)).toNat Dop.d7).regs (b0_4.getD (I b0_4.length - (1 : Int)).toNat Dop.d7).base ((b0_4.getD (I b0_4.length - (1 : Int)).toNat Dop.d7).at_ + (1 : Int)) (b0_4.getD (I b0_4.length - (1 : Int)).toNat Dop.d7).dst)).getD (I b0_4.length - (1 : Int)).toNat Dop.d7).regs.length)) = true then
        if (decide ((I b0_4.length - (1 : Int)).toNat < (b0_4.set (I b0_4.length - (1 : Int)).toNat (Dop.Frm.mk (b0_4.getD (I b0_4.length - (1 : Int)).toNat Dop.d7).f (b0_4.getD (I b0_4.length - (1 : Int)).toNat Dop.d7).regs (b0_4.getD (I b0_4.length - (1 : Int)).toNat Dop.d7).base ((b0_4.getD (I b0_4.length - (1 : Int)).toNat Dop.d7).at_ + (1 : Int)) (b0_4.getD (I b0_4.length - (1 : Int)).toNat Dop.d7).dst)).length) && decide (((b0_4.getD (I b0_4.length - (1 : Int)).toNat Dop.d7).f.code.getD (b0_4.getD (I b0_4.length - (1 : Int)).toNat Dop.d7).at_.toNat Dop.d3).b.toNat < ((b0_4.set (I b0_4.length - (1 : Int)).toNat (Dop.Frm.mk (b0_4.getD (I b0_4.length - (1 : Int)).toNat Dop.d7).f (b0_4.getD (I b0_4.length - (1 : Int)).toNat Dop.d7).regs (b0_4.getD (I b0_4.length - (1 : Int)).toNat Dop.d7).base ((b0_4.getD (I b0_4.length - (1 : Int)).toNat Dop.d7).at_ + (1 : Int)) (b0_4.getD (I b0_4.length - (1 : Int)).toNat Dop.d7).dst)).getD (I b0_4.length - (1 : Int)).toNat Dop.d7).regs.length)) = true then
        if (decide ((0 : Int) ≤ y4.fst.fst ∧ y4.fst.fst < I b0_1.length)) = true then
        if (decide (y4.fst.fst.toNat < b0_1.length)) = true then
        some ((), ((b0_0, (b0_1.set y4.fst.fst.toNat (((b0_4.set (I b0_4.length - (1 : Int)).toNat (Dop.Frm.mk (b0_4.getD (I b0_4.length - (1 : Int)).toNat Dop.d7).f (b0_4.getD (I b0_4.length - (1 : Int)).toNat Dop.d7).regs (b0_4.getD (I b0_4.length - (1 : Int)).toNat Dop.d7).base ((b0_4.getD (I b0_4.length - (1 : Int)).toNat Dop.d7).at_ + (1 : Int)) (b0_4.getD (I b0_4.length - (1 : Int)).toNat Dop.d7).dst)).getD (I b0_4.length - (1 : Int)).toNat Dop.d7).regs.getD ((b0_4.getD (I b0_4.length - (1 : Int)).toNat Dop.d7).f.code.getD (b0_4.getD (I b0_4.length - (1 : Int)).toNat Dop.d7).at_.toNat Dop.d3).b.toNat (0 : Int)), (b0_2, (b0_3, (b0_4.set (I b0_4.length - (1 : Int)).toNat (Dop.Frm.mk (b0_4.getD (I b0_4.length - (1 : Int)).toNat Dop.d7).f (b0_4.getD (I b0_4.length - (1 : Int)).toNat Dop.d7).regs (b0_4.getD (I b0_4.length - (1 : Int)).toNat Dop.d7).base ((b0_4.getD (I b0_4.length - (1 : Int)).toNat Dop.d7).at_ + (1 : Int)) (b0_4.getD (I b0_4.length - (1 : Int)).toNat Dop.d7).dst), (b0_5, (b0_6, (b0_7, (b0_8, ()))))))))), ()))
        else none
        else none
        else none
        else none
        else none
    else none
    else none
    else none
   else
    Try.m27_8 ((I b0_4.length - (1 : Int)).toNat) (((b0_4.getD (I b0_4.length - (1 : Int)).toNat Dop.d7).f.code.getD (b0_4.getD (I b0_4.length - (1 : Int)).toNat Dop.d7).at_.toNat Dop.d3).kind) (b0_0) (b0_1) (b0_2) (b0_3) (b0_5) (b0_6) (b0_7) (b0_8) (b0_4.set (I b0_4.length - (1 : Int)).toNat (Dop.Frm.mk (b0_4.getD (I b0_4.length - (1 : Int)).toNat Dop.d7).f (b0_4.getD (I b0_4.length - (1 : Int)).toNat Dop.d7).regs (b0_4.getD (I b0_4.length - (1 : Int)).toNat Dop.d7).base ((b0_4.getD (I b0_4.length - (1 : Int)).toNat Dop.d7).at_ + (1 : Int)) (b0_4.getD (I b0_4.length - (1 : Int)).toNat Dop.d7).dst)) ((b0_4.getD (I b0_4.length - (1 : Int)).toNat Dop.d7).f.code.getD (b0_4.getD (I b0_4.length - (1 : Int)).toNat Dop.d7).at_.toNat Dop.d3)
  else
   if (decide (((b0_4.getD (I b0_4.length - (1 : Int)).toNat Dop.d7).f.code.getD (b0_4.getD (I b0_4.length - (1 : Int)).toNat Dop.d7).at_.toNat Dop.d3).kind = (7 : Int))) = true then
    if (decide ((I b0_4.length - (1 : Int)).toNat < (b0_4.set (I b0_4.length - (1 : Int)).toNat (Dop.Frm.mk (b0_4.getD (I b0_4.length - (1 : Int)).toNat Dop.d7).f (b0_4.getD (I b0_4.length - (1 : Int)).toNat Dop.d7).regs (b0_4.getD (I b0_4.length - (1 : Int)).toNat Dop.d7).base ((b0_4.getD (I b0_4.length - (1 : Int)).toNat Dop.d7).at_ + (1 : Int)) (b0_4.getD (I b0_4.length - (1 : Int)).toNat Dop.d7).dst)).length)) = true then
    if (decide ((I b0_4.length - (1 : Int)).toNat < (b0_4.set (I b0_4.length - (1 : Int)).toNat (Dop.Frm.mk (b0_4.getD (I b0_4.length - (1 : Int)).toNat Dop.d7).f (b0_4.getD (I b0_4.length - (1 : Int)).toNat Dop.d7).regs (b0_4.getD (I b0_4.length - (1 : Int)).toNat Dop.d7).base ((b0_4.getD (I b0_4.length - (1 : Int)).toNat Dop.d7).at_ + (1 : Int)) (b0_4.getD (I b0_4.length - (1 : Int)).toNat Dop.d7).dst)).length ∧ (0 : Int) ≤ ((b0_4.getD (I b0_4.length - (1 : Int)).toNat Dop.d7).f.code.getD (b0_4.getD (I b0_4.length - (1 : Int)).toNat Dop.d7).at_.toNat Dop.d3).a ∧ ((b0_4.getD (I b0_4.length - (1 : Int)).toNat Dop.d7).f.code.getD (b0_4.getD (I b0_4.length - (1 : Int)).toNat Dop.d7).at_.toNat Dop.d3).a < I ((b0_4.set (I b0_4.length - (1 : Int)).toNat (Dop.Frm.mk (b0_4.getD (I b0_4.length - (1 : Int)).toNat Dop.d7).f (b0_4.getD (I b0_4.length - (1 : Int)).toNat Dop.d7).regs (b0_4.getD (I b0_4.length - (1 : Int)).toNat Dop.d7).base ((b0_4.getD (I b0_4.length - (1 : Int)).toNat Dop.d7).at_ + (1 : Int)) (b0_4.getD (I b0_4.length - (1 : Int)).toNat Dop.d7).dst)).getD (I b0_4.length - (1 : Int)).toNat Dop.d7).regs.length)) = true then
    if (decide ((I b0_4.length - (1 : Int)).toNat < (b0_4.set (I b0_4.length - (1 : Int)).toNat (Dop.Frm.mk (b0_4.getD (I b0_4.length - (1 : Int)).toNat Dop.d7).f (b0_4.getD (I b0_4.length - (1 : Int)).toNat Dop.d7).regs (b0_4.getD (I b0_4.length - (1 : Int)).toNat Dop.d7).base ((b0_4.getD (I b0_4.length - (1 : Int)).toNat Dop.d7).at_ + (1 : Int)) (b0_4.getD (I b0_4.length - (1 : Int)).toNat Dop.d7).dst)).length) && decide (((b0_4.getD (I b0_4.length - (1 : Int)).toNat Dop.d7).f.code.getD (b0_4.getD (I b0_4.length - (1 : Int)).toNat Dop.d7).at_.toNat Dop.d3).a.toNat < ((b0_4.set (I b0_4.length - (1 : Int)).toNat (Dop.Frm.mk (b0_4.getD (I b0_4.length - (1 : Int)).toNat Dop.d7).f (b0_4.getD (I b0_4.length - (1 : Int)).toNat Dop.d7).regs (b0_4.getD (I b0_4.length - (1 : Int)).toNat Dop.d7).base ((b0_4.getD (I b0_4.length - (1 : Int)).toNat Dop.d7).at_ + (1 : Int)) (b0_4.getD (I b0_4.length - (1 : Int)).toNat Dop.d7).dst)).getD (I b0_4.length - (1 : Int)).toNat Dop.d7).regs.length)) = true then
    (Try.m46 (((b0_4.set (I b0_4.length - (1 : Int)).toNat (Dop.Frm.mk (b0_4.getD (I b0_4.length - (1 : Int)).toNat Dop.d7).f (b0_4.getD (I b0_4.length - (1 : Int)).toNat Dop.d7).regs (b0_4.getD (I b0_4.length - (1 : Int)).toNat Dop.d7).base ((b0_4.getD (I b0_4.length - (1 : Int)).toNat Dop.d7).at_ + (1 : Int)) (b0_4.getD (I b0_4.length - (1 : Int)).toNat Dop.d7).dst)).getD (I b0_4.length - (1 : Int)).toNat Dop.d7).regs.getD ((b0_4.getD (I b0_4.length - (1 : Int)).toNat Dop.d7).f.code.getD (b0_4.getD (I b0_4.length - (1 : Int)).toNat Dop.d7).at_.toNat Dop.d3).a.toNat (0 : Int))).bind fun y4 =>
     if (decide (y4.fst.fst < (1 : Int))) = true then
      some ((), ((b0_0, (b0_1, (b0_2, (b0_3, (b0_4.set (I b0_4.length - (1 : Int)).toNat (Dop.Frm.mk (b0_4.getD (I b0_4.length - (1 : Int)).toNat Dop.d7).f (b0_4.getD (I b0_4.length - (1 : Int)).toNat Dop.d7).regs (b0_4.getD (I b0_4.length - (1 : Int)).toNat Dop.d7).base ((b0_4.getD (I b0_4.length - (1 : Int)).toNat Dop.d7).at_ + (1 : Int)) (b0_4.getD (I b0_4.length - (1 : Int)).toNat Dop.d7).dst), (true, ((2 : Int), ((1 : Int), (b0_8, ()))))))))), ()))
     else
      if (decide (I b0_1.length ≤ y4.fst.fst)) = true then
       some ((), ((b0_0, (b0_1, (b0_2, (b0_3, (b0_4.set (I b0_4.length - (1 : Int)).toNat (Dop.Frm.mk (b0_4.getD (I b0_4.length - (1 : Int)).toNat Dop.d7).f (b0_4.getD (I b0_4.length - (1 : Int)).toNat Dop.d7).regs (b0_4.getD (I b0_4.length - (1 : Int)).toNat Dop.d7).base ((b0_4.getD (I b0_4.length - (1 : Int)).toNat Dop.d7).at_ + (1 : Int)) (b0_4.getD (I b0_4.length - (1 : Int)).toNat Dop.d7).dst), (true, ((2 : Int), ((1 : Int), (b0_8, ()))))))))), ()))
      else
       if (decide (((b0_4.getD (I b0_4.length - (1 : Int)).toNat Dop.d7).f.code.getD (b0_4.getD (I b0_4.length - (1 : Int)).toNat Dop.d7).at_.toNat Dop.d3).kind = (6 : Int))) = true then
        if (decide ((I b0_4.length - (1 : Int)).toNat < (b0_4.set (I b0_4.length - (1 : Int)).toNat (Dop.Frm.mk (b0_4.getD (I b0_4.length - (1 : Int)).toNat Dop.d7).f (b0_4.getD (I b0_4.length - (1 : Int)).toNat Dop.d7).regs (b0_4.getD (I b0_4.length - (1 : Int)).toNat Dop.d7).base ((b0_4.getD (I b0_4.length - (1 : Int)).toNat Dop.d7).at_ + (1 : Int)) (b0_4.getD (I b0_4.length - (1 : Int)).toNat Dop.d7).dst)).length)) = true then
        if (decide ((0 : Int) ≤ y4.fst.fst ∧ y4.fst.fst < I b0_1.length)) = true then
        if (decide (y4.fst.fst.toNat < b0_1.length)) = true then
        if (decide ((I b0_4.length - (1 : Int)).toNat < (b0_4.set (I b0_4.length - (1 : Int)).toNat (Dop.Frm.mk (b0_4.getD (I b0_4.length - (1 : Int)).toNat Dop.d7).f (b0_4.getD (I b0_4.length - (1 : Int)).toNat Dop.d7).regs (b0_4.getD (I b0_4.length - (1 : Int)).toNat Dop.d7).base ((b0_4.getD (I b0_4.length - (1 : Int)).toNat Dop.d7).at_ + (1 : Int)) (b0_4.getD (I b0_4.length - (1 : Int)).toNat Dop.d7).dst)).length ∧ (0 : Int) ≤ ((b0_4.getD (I b0_4.length - (1 : Int)).toNat Dop.d7).f.code.getD (b0_4.getD (I b0_4.length - (1 : Int)).toNat Dop.d7).at_.toNat Dop.d3).dst ∧ ((b0_4.getD (I b0_4.length - (1 : Int)).toNat Dop.d7).f.code.getD (b0_4.getD (I b0_4.length - (1 : Int)).toNat Dop.d7).at_.toNat Dop.d3).dst < I ((b0_4.set (I b0_4.length - (1 : Int)).toNat (Dop.Frm.mk (b0_4.getD (I b0_4.length - (1 : Int)).toNat Dop.d7).f (b0_4.getD (I b0_4.length - (1 : Int)).toNat Dop.d7).regs (b0_4.getD (I b0_4.length - (1 : Int)).toNat Dop.d7).base ((b0_4.getD (I b0_4.length - (1 : Int)).toNat Dop.d7).at_ + (1 : Int)) (b0_4.getD (I b0_4.length - (1 : Int)).toNat Dop.d7).dst)).getD (I b0_4.length - (1 : Int)).toNat Dop.d7).regs.length)) = true then
        if (decide ((I b0_4.length - (1 : Int)).toNat < (b0_4.set (I b0_4.length - (1 : Int)).toNat (Dop.Frm.mk (b0_4.getD (I b0_4.length - (1 : Int)).toNat Dop.d7).f (b0_4.getD (I b0_4.length - (1 : Int)).toNat Dop.d7).regs (b0_4.getD (I b0_4.length - (1 : Int)).toNat Dop.d7).base ((b0_4.getD (I b0_4.length - (1 : Int)).toNat Dop.d7).at_ + (1 : Int)) (b0_4.getD (I b0_4.length - (1 : Int)).toNat Dop.d7).dst)).length ∧ ((b0_4.getD (I b0_4.length - (1 : Int)).toNat Dop.d7).f.code.getD (b0_4.getD (I b0_4.length - (1 : Int)).toNat Dop.d7).at_.toNat Dop.d3).dst.toNat < ((b0_4.set (I b0_4.length - (1 : Int)).toNat (Dop.Frm.mk (b0_4.getD (I b0_4.length - (1 : Int)).toNat Dop.d7).f (b0_4.getD (I b0_4.length - (1 : Int)).toNat Dop.d7).regs (b0_4.getD (I b0_4.length - (1 : Int)).toNat Dop.d7).base ((b0_4.getD (I b0_4.length - (1 : Int)).toNat Dop.d7).at_ + (1 : Int)) (b0_4.getD (I b0_4.length - (1 : Int)).toNat Dop.d7).dst)).getD (I b0_4.length - (1 : Int)).toNat Dop.d7).regs.length)) = true then
        some ((), ((b0_0, (b0_1, (b0_2, (b0_3, ((b0_4.set (I b0_4.length - (1 : Int)).toNat (Dop.Frm.mk (b0_4.getD (I b0_4.length - (1 : Int)).toNat Dop.d7).f (b0_4.getD (I b0_4.length - (1 : Int)).toNat Dop.d7).regs (b0_4.getD (I b0_4.length - (1 : Int)).toNat Dop.d7).base ((b0_4.getD (I b0_4.length - (1 : Int)).toNat Dop.d7).at_ + (1 : Int)) (b0_4.getD (I b0_4.length - (1 : Int)).toNat Dop.d7).dst)).set (I b0_4.length - (1 : Int)).toNat (Dop.Frm.mk ((b0_4.set (I b0_4.length - (1 : Int)).toNat (Dop.Frm.mk (b0_4.getD (I b0_4.length - (1 : Int)).toNat Dop.d7).f (b0_4.getD (I b0_4.length - (1 : Int)).toNat Dop.d7).regs (b0_4.getD (I b0_4.length - (1 : Int)).toNat Dop.d7).base ((b0_4.getD (I b0_4.length - (1 : Int)).toNat Dop.d7).at_ + (1 : Int)) (b0_4.getD (I b0_4.length - (1 : Int)).toNat Dop.d7).dst)).getD (I b0_4.length - (1 : Int)).toNat Dop.d7).f (((b0_4.set (I b0_4.length - (1 : Int)).toNat (Dop.Frm.mk (b0_4.getD (I b0_4.length - (1 : Int)).toNat Dop.d7).f (b0_4.getD (I b0_4.length - (1 : Int)).toNat Dop.d7).regs (b0_4.getD (I b0_4.length - (1 : Int)).toNat Dop.d7).base ((b0_4.getD (I b0_4.length - (1 : Int)).toNat Dop.d7).at_ + (1 : Int)) (b0_4.getD (I b0_4.length - (1 : Int)).toNat Dop.d7).dst)).getD (I b0_4.length - (1 : Int)).toNat Dop.d7).regs.set ((b0_4.getD (I b0_4.length - (1 : Int)).toNat Dop.d7).f.code.getD (b0_4.getD (I b0_4.length - (1 : Int)).toNat Dop.d7).at_.toNat Dop.d3).dst.toNat (b0_1.getD y4.fst.fst.toNat (0 : Int))) ((b0_4.set (I b0_4.length - (1 : Int)).toNat (Dop.Frm.mk (b0_4.getD (I b0_4.length - (1 : Int)).toNat Dop.d7).f (b0_4.getD (I b0_4.length - (1 : Int)).toNat Dop.d7).regs (b0_4.getD (I b0_4.length - (1 : Int)).toNat Dop.d7).base ((b0_4.getD (I b0_4.length - (1 : Int)).toNat Dop.d7).at_ + (1 : Int)) (b0_4.getD (I b0_4.length - (1 : Int)).toNat Dop.d7).dst)).getD (I b0_4.length - (1 : Int)).toNat Dop.d7).base ((b0_4.set (I b0_4.length - (1 : Int)).toNat (Dop.Frm.mk (b0_4.getD (I b0_4.length - (1 : Int)).toNat Dop.d7).f (b0_4.getD (I b0_4.length - (1 : Int)).toNat Dop.d7).regs (b0_4.getD (I b0_4.length - (1 : Int)).toNat Dop.d7).base ((b0_4.getD (I b0_4.length - (1 : Int)).toNat Dop.d7).at_ + (1 : Int)) (b0_4.getD (I b0_4.length - (1 : Int)).toNat Dop.d7).dst)).getD (I b0_4.length - (1 : Int)).toNat Dop.d7).at_ ((b0_4.set (I b0_4.length - (1 : Int)).toNat (Dop.Frm.mk (b0_4.getD (I b0_4.length - (1 : Int)).toNat Dop.d7).f (b0_4.getD (I b0_4.length - (1 : Int)).toNat Dop.d7).regs (b0_4.getD (I b0_4.length - (1 : Int)).toNat Dop.d7).base ((b0_4.getD (I b0_4.length - (1 : Int)).toNat Dop.d7).at_ + (1 : Int)) (b0_4.getD (I b0_4.length - (1 : Int)).toNat Dop.d7).dst)).getD (I b0_4.length - (1 : Int)).toNat Dop.d7).dst), (b0_5, (b0_6, (b0_7, (b0_8, ()))))))))), ()))
        else none
        else none
        else none
        else none
        else none
       else
        if (decide ((I b0_4.length - (1 : Int)).toNat < (b0_4.set (I b0_4.length - (1 : Int)).toNat (Dop.Frm.mk (b0_4.getD (I b0_4.length - (1 : Int)).toNat Dop.d7).f (b0_4.getD (I b0_4.length - (1 : Int)).toNat Dop.d7).regs (b0_4.getD (I b0_4.length - (1 : Int)).toNat Dop.d7).base ((b0_4.getD (I b0_4.length - (1 : Int)).toNat Dop.d7).at_ + (1 : Int)) (b0_4.getD (I b0_4.length - (1 : Int)).toNat Dop.d7).dst)).length)) = true then
        if (decide ((I b0_4.length - (1 : Int)).toNat < (b0_4.set (I b0_4.length - (1 : Int)).toNat (Dop.Frm.mk (b0_4.getD (I b0_4.length - (1 : Int)).toNat Dop.d7).f (b0_4.getD (I b0_4.length - (1 : Int)).toNat Dop.d7).regs (b0_4.getD (I b0_4.length - (1 : Int)).toNat Dop.d7).base ((b0_4.getD (I b0_4.length - (1 : Int)).toNat Dop.d7).at_ + (1 : Int)) (b0_4.getD (I b0_4.length - (1 : Int)).toNat Dop.d7).dst)).length ∧ (0 : Int) ≤ ((b0_4.getD (I b0_4.length - (1 : Int)).toNat Dop.d7).f.code.getD (b0_4.getD (I b0_4.length - (1 : Int)).toNat Dop.d7).at_.toNat Dop.d3).b ∧ ((b0_4.getD (I b0_4.length - (1 : Int)).toNat Dop.d7).f.code.getD (b0_4.getD (I b0_4.length - (1 : Int)).toNat Dop.d7).at_.toNat Dop.d3).b < I ((b0_4.set (I b0_4.length - (1 : Int)).toNat (Dop.Frm.mk (b0_4.getD (I b0_4.length - (1 : Int)).toNat Dop.d7).f (b0_4.getD (I b0_4.length - (1 : Int)).toNat Dop.d7).regs (b0_4.getD (I b0_4.length - (1 : Int)).toNat Dop.d7).base ((b0_4.getD (I b0_4.length - (1 : Int)).toNat Dop.d7).at_ + (1 : Int)) (b0_4.getD (I b0_4.length - (1 : Int)).toNat Dop.d7).dst)).getD (I b0_4.length - (1 : Int)).toNat Dop.d7).regs.length)) = true then
        if (decide ((I b0_4.length - (1 : Int)).toNat < (b0_4.set (I b0_4.length - (1 : Int)).toNat (Dop.Frm.mk (b0_4.getD (I b0_4.length - (1 : Int)).toNat Dop.d7).f (b0_4.getD (I b0_4.length - (1 : Int)).toNat Dop.d7).regs (b0_4.getD (I b0_4.length - (1 : Int)).toNat Dop.d7).base ((b0_4.getD (I b0_4.length - (1 : Int)).toNat Dop.d7).at_ + (1 : Int)) (b0_4.getD (I b0_4.length - (1 : Int)).toNat Dop.d7).dst)).length) && decide (((b0_4.getD (I b0_4.length - (1 : Int)).toNat Dop.d7).f.code.getD (b0_4.getD (I b0_4.length - (1 : Int)).toNat Dop.d7).at_.toNat Dop.d3).b.toNat < ((b0_4.set (I b0_4.length - (1 : Int)).toNat (Dop.Frm.mk (b0_4.getD (I b0_4.length - (1 : Int)).toNat Dop.d7).f (b0_4.getD (I b0_4.length - (1 : Int)).toNat Dop.d7).regs (b0_4.getD (I b0_4.length - (1 : Int)).toNat Dop.d7).base ((b0_4.getD (I b0_4.length - (1 : Int)).toNat Dop.d7).at_ + (1 : Int)) (b0_4.getD (I b0_4.length - (1 : Int)).toNat Dop.d7).dst)).getD (I b0_4.length - (1 : Int)).toNat Dop.d7).regs.length)) = true then
        if (decide ((0 : Int) ≤ y4.fst.fst ∧ y4.fst.fst < I b0_1.length)) = true then
        if (decide (y4.fst.fst.toNat < b0_1.length)) = true then
        some ((), ((b0_0, (b0_1.set y4.fst.fst.toNat (((b0_4.set (I b0_4.length - (1 : Int)).toNat (Dop.Frm.mk (b0_4.getD (I b0_4.length - (1 : Int)).toNat Dop.d7).f (b0_4.getD (I b0_4.length - (1 : Int)).toNat Dop.d7).regs (b0_4.getD (I b0_4.length - (1 : Int)).toNat Dop.d7).base ((b0_4.getD (I b0_4.length - (1 : Int)).toNat Dop.d7).at_ + (1 : Int)) (b0_4.getD (I b0_4.length - (1 : Int)).toNat Dop.d7).dst)).getD (I b0_4.length - (1 : Int)).toNat Dop.d7).regs.getD ((b0_4.getD (I b0_4.length - (1 : Int)).toNat Dop.d7).f.code.getD (b0_4.getD (I b0_4.length - (1 : Int)).toNat Dop.d7).at_.toNat Dop.d3).b.toNat (0 : Int)), (b0_2, (b0_3, (b0_4.set (I b0_4.length - (1 : Int)).toNat (Dop.Frm.mk (b0_4.getD (I b0_4.length - (1 : Int)).toNat Dop.d7).f (b0_4.getD (I b0_4.length - (1 : Int)).toNat Dop.d7).regs (b0_4.getD (I b0_4.length - (1 : Int)).toNat Dop.d7).base ((b0_4.getD (I b0_4.length - (1 : Int)).toNat Dop.d7).at_ + (1 : Int)) (b0_4.getD (I b0_4.length - (1 : Int)).toNat Dop.d7).dst), (b0_5, (b0_6, (b0_7, (b0_8, ()))))))))), ()))
        else none
        else none
        else none
        else none
        else none
    else none
    else none
    else none
   else
    Try.m27_8 ((I b0_4.length - (1 : Int)).toNat) (((b0_4.getD (I b0_4.length - (1 : Int)).toNat Dop.d7).f.code.getD (b0_4.getD (I b0_4.length - (1 : Int)).toNat Dop.d7).at_.toNat Dop.d3).kind) (b0_0) (b0_1) (b0_2) (b0_3) (b0_5) (b0_6) (b0_7) (b0_8) (b0_4.set (I b0_4.length - (1 : Int)).toNat (Dop.Frm.mk (b0_4.getD (I b0_4.length - (1 : Int)).toNat Dop.d7).f (b0_4.getD (I b0_4.length - (1 : Int)).toNat Dop.d7).regs (b0_4.getD (I b0_4.length - (1 : Int)).toNat Dop.d7).base ((b0_4.getD (I b0_4.length - (1 : Int)).toNat Dop.d7).at_ + (1 : Int)) (b0_4.getD (I b0_4.length - (1 : Int)).toNat Dop.d7).dst)) ((b0_4.getD (I b0_4.length - (1 : Int)).toNat Dop.d7).f.code.getD (b0_4.getD (I b0_4.length - (1 : Int)).toNat Dop.d7).at_.toNat Dop.d3)
  else none
  else none
  else none
  else none
  else none
  else none
  else none
  else none := by kernel_rfl
theorem Try.m27_8_eq (t2 : Nat) (t37 : Int) (b0_0 : List (List UInt8 × En.Dop.Fnc)) (b0_1 : List (Int)) (b0_2 : Int) (b0_3 : List (Int)) (b0_5 : Bool) (b0_6 : Int) (b0_7 : Int) (b0_8 : List (Int)) (b1 : List (En.Dop.Frm)) (b2 : En.Dop.Ins) : Try.m27_8 t2 t37 b0_0 b0_1 b0_2 b0_3 b0_5 b0_6 b0_7 b0_8 b1 b2 =
  if (decide (t37 = (8 : Int))) = true then
   (Try.m34 (b2)).bind fun y3 =>
    Try.m27_11 (t2) (@List.nil Int) (y3.fst.fst) (I y3.fst.fst.length) ((0 : Int)) (b0_0) (b0_1) (b0_2) (b0_3) (b0_5) (b0_6) (b0_7) (b0_8) (b1) (b2)
  else
   if (decide (t37 = (9 : Int))) = true then
    if (decide (t2 < b1.length)) = true then
    if (decide (t2 < b1.length ∧ (0 : Int) ≤ b2.dst ∧ b2.dst < I (b1.getD t2 Dop.d7).regs.length)) = true then
    if (decide (t2 < b1.length ∧ b2.dst.toNat < (b1.getD t2 Dop.d7).regs.length)) = true then
    if (decide ((0 : Int) < I b0_3.length)) = true then
     if (decide (t2 < (b1.set t2 (Dop.Frm.mk (b1.getD t2 Dop.d7).f ((b1.getD t2 Dop.d7).regs.set b2.dst.toNat (-1 : Int)) (b1.getD t2 Dop.d7).base (b1.getD t2 Dop.d7).at_ (b1.getD t2 Dop.d7).dst)).length)) = true then
     if (decide ((0 : Int) ≤ (0 : Int) ∧ (0 : Int) < I b0_3.length)) = true then
     if (inR (b0_3.getD (Int.toNat (0 : Int)) (0 : Int))) = true then
     if (decide ((0 : Int) ≤ (1 : Int) ∧ (1 : Int) ≤ I b0_3.length ∧ I b0_3.length ≤ I b0_3.length)) = true then
     if (decide (t2 < (b1.set t2 (Dop.Frm.mk (b1.getD t2 Dop.d7).f ((b1.getD t2 Dop.d7).regs.set b2.dst.toNat (-1 : Int)) (b1.getD t2 Dop.d7).base (b1.getD t2 Dop.d7).at_ (b1.getD t2 Dop.d7).dst)).length ∧ (0 : Int) ≤ b2.dst ∧ b2.dst < I ((b1.set t2 (Dop.Frm.mk (b1.getD t2 Dop.d7).f ((b1.getD t2 Dop.d7).regs.set b2.dst.toNat (-1 : Int)) (b1.getD t2 Dop.d7).base (b1.getD t2 Dop.d7).at_ (b1.getD t2 Dop.d7).dst)).getD t2 Dop.d7).regs.length)) = true then
     if (decide (t2 < (b1.set t2 (Dop.Frm.mk (b1.getD t2 Dop.d7).f ((b1.getD t2 Dop.d7).regs.set b2.dst.toNat (-1 : Int)) (b1.getD t2 Dop.d7).base (b1.getD t2 Dop.d7).at_ (b1.getD t2 Dop.d7).dst)).length ∧ b2.dst.toNat < ((b1.set t2 (Dop.Frm.mk (b1.getD t2 Dop.d7).f ((b1.getD t2 Dop.d7).regs.set b2.dst.toNat (-1 : Int)) (b1.getD t2 Dop.d7).base (b1.getD t2 Dop.d7).at_ (b1.getD t2 Dop.d7).dst)).getD t2 Dop.d7).regs.length)) = true then
     some ((), ((b0_0, (b0_1, (b0_2, (List.drop (Int.toNat (1 : Int)) (List.take (I b0_3.length).toNat b0_3), ((b1.set t2 (Dop.Frm.mk (b1.getD t2 Dop.d7).f ((b1.getD t2 Dop.d7).regs.set b2.dst.toNat (-1 : Int)) (b1.getD t2 Dop.d7).base (b1.getD t2 Dop.d7).at_ (b1.getD t2 Dop.d7).dst)).set t2 (Dop.Frm.mk ((b1.set t2 (Dop.Frm.mk (b1.getD t2 Dop.d7).f ((b1.getD t2 Dop.d7).regs.set b2.dst.toNat (-1 : Int)) (b1.getD t2 Dop.d7).base (b1.getD t2 Dop.d7).at_ (b1.getD t2 Dop.d7).dst)).getD t2 Dop.d7).f (((b1.set t2 (Dop.Frm.mk (b1.getD t2 Dop.d7).f ((b1.getD t2 Dop.d7).regs.set b2.dst.toNat (-1 : Int)) (b1.getD t2 Dop.d7).base (b1.getD t2 Dop.d7).at_ (b1.getD t2 Dop.d7).dst)).getD t2 Dop.d7).regs.set b2.dst.toNat (b0_3.getD (Int.toNat (0 : Int)) (0 : Int))) ((b1.set t2 (Dop.Frm.mk (b1.getD t2 Dop.d7).f ((b1.getD t2 Dop.d7).regs.set b2.dst.toNat (-1 : Int)) (b1.getD t2 Dop.d7).base (b1.getD t2 Dop.d7).at_ (b1.getD t2 Dop.d7).dst)).getD t2 Dop.d7).base ((b1.set t2 (Dop.Frm.mk (b1.getD t2 Dop.d7).f ((b1.getD t2 Dop.d7).regs.set b2.dst.toNat (-1 : Int)) (b1.getD t2 Dop.d7).base (b1.getD t2 Dop.d7).at_ (b1.getD t2 Dop.d7).dst)).getD t2 Dop.d7).at_ ((b1.set t2 (Dop.Frm.mk (b1.getD t2 Dop.d7).f ((b1.getD t2 Dop.d7).regs.set b2.dst.toNat (-1 : Int)) (b1.getD t2 Dop.d7).base (b1.getD t2 Dop.d7).at_ (b1.getD t2 Dop.d7).dst)).getD t2 Dop.d7).dst), (b0_5, (b0_6, (b0_7, (b0_8, ()))))))))), ()))
     else none
     else none
     else none
     else none
     else none
     else none
    else
     some ((), ((b0_0, (b0_1, (b0_2, (b0_3, (b1.set t2 (Dop.Frm.mk (b1.getD t2 Dop.d7).f ((b1.getD t2 Dop.d7).regs.set b2.dst.toNat (-1 : Int)) (b1.getD t2 Dop.d7).base (b1.getD t2 Dop.d7).at_ (b1.getD t2 Dop.d7).dst), (b0_5, (b0_6, (b0_7, (b0_8, ()))))))))), ()))
    else none
    else none
    else none
   else
    if (decide (t37 = (10 : Int))) = true then
     if (decide (t2 < b1.length)) = true then
     if (decide (t2 < b1.length ∧ (0 : Int) ≤ b2.a ∧ b2.a < I (b1.getD t2 Dop.d7).regs.length)) = true then
     if (decide (t2 < b1.length) && decide (b2.a.toNat < (b1.getD t2 Dop.d7).regs.length)) = true then
     if (andC none (room (1 : Nat) (b0_8.length + (IntKind.u8.wrap ((b1.getD t2 Dop.d7).regs.getD b2.a.toNat (0 : Int)) :: @List.nil Int).length))) = true then
     some ((), ((b0_0, (b0_1, (b0_2, (b0_3, (b1, (b0_5, (b0_6, (b0_7, (b0_8 ++ IntKind.u8.wrap ((b1.getD t2 Dop.d7).regs.getD b2.a.toNat (0 : Int)) :: @List.nil Int, ()))))))))), ()))
     else none
     else none
     else none
     else none
    else
     if (decide (t37 = (11 : Int))) = true then
      if (decide (t2 < b1.length)) = true then
      some ((), ((b0_0, (b0_1, (b0_2, (b0_3, (b1.set t2 (Dop.Frm.mk (b1.getD t2 Dop.d7).f (b1.getD t2 Dop.d7).regs (b1.getD t2 Dop.d7).base b2.to_ (b1.getD t2 Dop.d7).dst), (b0_5, (b0_6, (b0_7, (b0_8, ()))))))))), ()))
      else none
     else
      if (decide (t37 = (12 : Int))) = true then
       if (decide (t2 < b1.length)) = true then
       if (decide (t2 < (b1.set t2 (Dop.Frm.mk (b1.getD t2 Dop.d7).f (b1.getD t2 Dop.d7).regs (b1.getD t2 Dop.d7).base b2.else_ (b1.getD t2 Dop.d7).dst)).length)) = true then
       if (decide (t2 < (b1.set t2 (Dop.Frm.mk (b1.getD t2 Dop.d7).f (b1.getD t2 Dop.d7).regs (b1.getD t2 Dop.d7).base b2.else_ (b1.getD t2 Dop.d7).dst)).length ∧ (0 : Int) ≤ b2.a ∧ b2.a < I ((b1.set t2 (Dop.Frm.mk (b1.getD t2 Dop.d7).f (b1.getD t2 Dop.d7).regs (b1.getD t2 Dop.d7).base b2.else_ (b1.getD t2 Dop.d7).dst)).getD t2 Dop.d7).regs.length)) = true then
       if (decide (t2 < (b1.set t2 (Dop.Frm.mk (b1.getD t2 Dop.d7).f (b1.getD t2 Dop.d7).regs (b1.getD t2 Dop.d7).base b2.else_ (b1.getD t2 Dop.d7).dst)).length) && decide (b2.a.toNat < ((b1.set t2 (Dop.Frm.mk (b1.getD t2 Dop.d7).f (b1.getD t2 Dop.d7).regs (b1.getD t2 Dop.d7).base b2.else_ (b1.getD t2 Dop.d7).dst)).getD t2 Dop.d7).regs.length)) = true then
       if (!decide (((b1.set t2 (Dop.Frm.mk (b1.getD t2 Dop.d7).f (b1.getD t2 Dop.d7).regs (b1.getD t2 Dop.d7).base b2.else_ (b1.getD t2 Dop.d7).dst)).getD t2 Dop.d7).regs.getD b2.a.toNat (0 : Int) = (0 : Int))) = true then
        if (decide (t2 < (b1.set t2 (Dop.Frm.mk (b1.getD t2 Dop.d7).f (b1.getD t2 Dop.d7).regs (b1.getD t2 Dop.d7).base b2.else_ (b1.getD t2 Dop.d7).dst)).length)) = true then
        some ((), ((b0_0, (b0_1, (b0_2, (b0_3, ((b1.set t2 (Dop.Frm.mk (b1.getD t2 Dop.d7).f (b1.getD t2 Dop.d7).regs (b1.getD t2 Dop.d7).base b2.else_ (b1.getD t2 Dop.d7).dst)).set t2 (Dop.Frm.mk ((b1.set t2 (Dop.Frm.mk (b1.getD t2 Dop.d7).f (b1.getD t2 Dop.d7).regs (b1.getD t2 Dop.d7).base b2.else_ (b1.getD t2 Dop.d7).dst)).getD t2 Dop.d7).f ((b1.set t2 (Dop.Frm.mk (b1.getD t2 Dop.d7).f (b1.getD t2 Dop.d7).regs (b1.getD t2 Dop.d7).base b2.else_ (b1.getD t2 Dop.d7).dst)).getD t2 Dop.d7).regs ((b1.set t2 (Dop.Frm.mk (b1.getD t2 Dop.d7).f (b1.getD t2 Dop.d7).regs (b1.getD t2 Dop.d7).base b2.else_ (b1.getD t2 Dop.d7).dst)).getD t2 Dop.d7).base b2.to_ ((b1.set t2 (Dop.Frm.mk (b1.getD t2 Dop.d7).f (b1.getD t2 Dop.d7).regs (b1.getD t2 Dop.d7).base b2.else_ (b1.getD t2 Dop.d7).dst)).getD t2 Dop.d7).dst), (b0_5, (b0_6, (b0_7, (b0_8, ()))))))))), ()))
        else none
       else
        some ((), ((b0_0, (b0_1, (b0_2, (b0_3, (b1.set t2 (Dop.Frm.mk (b1.getD t2 Dop.d7).f (b1.getD t2 Dop.d7).regs (b1.getD t2 Dop.d7).base b2.else_ (b1.getD t2 Dop.d7).dst), (b0_5, (b0_6, (b0_7, (b0_8, ()))))))))), ()))
       else none
       else none
       else none
       else none
      else
       if (decide (t37 = (13 : Int))) = true then
        if (decide (t2 < b1.length)) = true then
        if (decide (t2 < b1.length ∧ (0 : Int) ≤ b2.a ∧ b2.a < I (b1.getD t2 Dop.d7).regs.length)) = true then
        if (decide (t2 < b1.length) && decide (b2.a.toNat < (b1.getD t2 Dop.d7).regs.length)) = true then
        if (inR (I b1.length - (1 : Int))) = true then
        if (decide ((0 : Int) ≤ I b1.length - (1 : Int) ∧ I b1.length - (1 : Int) < I b1.length)) = true then
        if (decide ((I b1.length - (1 : Int)).toNat < b1.length)) = true then
        if (inR (b0_2 - (b1.getD (I b1.length - (1 : Int)).toNat Dop.d7).f.frame)) = true then
        if (inR (I b1.length - (1 : Int))) = true then
        if (decide ((0 : Int) ≤ I b1.length - (1 : Int) ∧ I b1.length - (1 : Int) ≤ I b1.length)) = true then
        if (decide (I (List.take (I b1.length - (1 : Int)).toNat b1).length = (0 : Int))) = true then
         some ((), ((b0_0, (b0_1, (b0_2 - (b1.getD (I b1.length - (1 : Int)).toNat Dop.d7).f.frame, (b0_3, (List.take (I b1.length - (1 : Int)).toNat b1, (true, ((1 : Int), ((b1.getD t2 Dop.d7).regs.getD b2.a.toNat (0 : Int), (b0_8, ()))))))))), ()))
        else
         if (decide ((0 : Int) ≤ (b1.getD (I b1.length - (1 : Int)).toNat Dop.d7).dst)) = true then
          if (inR (I (List.take (I b1.length - (1 : Int)).toNat b1).length - (1 : Int))) = true then
          if (decide ((0 : Int) ≤ I (List.take (I b1.length - (1 : Int)).toNat b1).length - (1 : Int) ∧ I (List.take (I b1.length - (1 : Int)).toNat b1).length - (1 : Int) < I (List.take (I b1.length - (1 : Int)).toNat b1).length)) = true then
          if (decide ((I (List.take (I b1.length - (1 : Int)).toNat b1).length - (1 : Int)).toNat < (List.take (I b1.length - (1 : Int)).toNat b1).length)) = true then
          if (decide ((I (List.take (I b1.length - (1 : Int)).toNat b1).length - (1 : Int)).toNat < (List.take (I b1.length - (1 : Int)).toNat b1).length ∧ (0 : Int) ≤ (b1.getD (I b1.length - (1 : Int)).toNat Dop.d7).dst ∧ (b1.getD (I b1.length - (1 : Int)).toNat Dop.d7).dst < I ((List.take (I b1.length - (1 : Int)).toNat b1).getD (I (List.take (I b1.length - (1 : Int)).toNat b1).length - (1 : Int)).toNat Dop.d7).regs.length)) = true then
          if (decide ((I (List.take (I b1.length - (1 : Int)).toNat b1).length - (1 : Int)).toNat < (List.take (I b1.length - (1 : Int)).toNat b1).length ∧ (b1.getD (I b1.length - (1 : Int)).toNat Dop.d7).dst.toNat < ((List.take (I b1.length - (1 : Int)).toNat b1).getD (I (List.take (I b1.length - (1 : Int)).toNat b1).length - (1 : Int)).toNat Dop.d7).regs.length)) = true then
          some ((), ((b0_0, (b0_1, (b0_2 - (b1.getD (I b1.length - (1 : Int)).toNat Dop.d7).f.frame, (b0_3, ((List.take (I b1.length - (1 : Int)).toNat b1).set (I (List.take (I b1.length - (1 : Int)).toNat b1).length - (1 : Int)).toNat (Dop.Frm.mk ((List.take (I b1.length - (1 : Int)).toNat b1).getD (I (List.take (I b1.length - (1 : Int)).toNat b1).length - (1 : Int)).toNat Dop.d7).f (((List.take (I b1.length - (1 : Int)).toNat b1).getD (I (List.take (I b1.length - (1 : Int)).toNat b1).length - (1 : Int)).toNat Dop.d7).regs.set (b1.getD (I b1.length - (1 : Int)).toNat Dop.d7).dst.toNat ((b1.getD t2 Dop.d7).regs.getD b2.a.toNat (0 : Int))) ((List.take (I b1.length - (1 : Int)).toNat b1).getD (I (List.take (I b1.length - (1 : Int)).toNat b1).length - (1 : Int)).toNat Dop.d7).base ((List.take (I b1.length - (1 : Int)).toNat b1).getD (I (List.take (I b1.length - (1 : Int)).toNat b1).length - (1 : Int)).toNat Dop.d7).at_ ((List.take (I b1.length - (1 : Int)).toNat b1).getD (I (List.take (I b1.length - (1 : Int)).toNat b1).length - (1 : Int)).toNat Dop.d7).dst), (b0_5, (b0_6, (b0_7, (b0_8, ()))))))))), ()))
          else none
          else none
          else none
          else none
          else none
         else
          some ((), ((b0_0, (b0_1, (b0_2 - (b1.getD (I b1.length - (1 : Int)).toNat Dop.d7).f.frame, (b0_3, (List.take (I b1.length - (1 : Int)).toNat b1, (b0_5, (b0_6, (b0_7, (b0_8, ()))))))))), ()))
        else none
        else none
        else none
        else none
        else none
        else none
        else none
        else none
        else none
       else
        if (decide (b2.kind = (1 : Int))) = true then
         if (decide (t2 < b1.length)) = true then
         if (decide (t2 < b1.length ∧ (0 : Int) ≤ b2.dst ∧ b2.dst < I (b1.getD t2 Dop.d7).regs.length)) = true then
         if (decide (t2 < b1.length ∧ b2.dst.toNat < (b1.getD t2 Dop.d7).regs.length)) = true then
         some ((), ((b0_0, (b0_1, (b0_2, (b0_3, (b1.set t2 (Dop.Frm.mk (b1.getD t2 Dop.d7).f ((b1.getD t2 Dop.d7).regs.set b2.dst.toNat b2.n) (b1.getD t2 Dop.d7).base (b1.getD t2 Dop.d7).at_ (b1.getD t2 Dop.d7).dst), (b0_5, (b0_6, (b0_7, (b0_8, ()))))))))), ()))
         else none
         else none
         else none
        else
         if (decide (b2.kind = (4 : Int))) = true then
          if (decide (t2 < b1.length)) = true then
          if (decide (t2 < b1.length)) = true then
          if (decide (t2 < b1.length ∧ (0 : Int) ≤ b2.a ∧ b2.a < I (b1.getD t2 Dop.d7).regs.length)) = true then
          if (decide (t2 < b1.length) && decide (b2.a.toNat < (b1.getD t2 Dop.d7).regs.length)) = true then
          if (decide (t2 < b1.length ∧ (0 : Int) ≤ b2.dst ∧ b2.dst < I (b1.getD t2 Dop.d7).regs.length)) = true then
          if (decide (t2 < b1.length ∧ b2.dst.toNat < (b1.getD t2 Dop.d7).regs.length)) = true then
          some ((), ((b0_0, (b0_1, (b0_2, (b0_3, (b1.set t2 (Dop.Frm.mk (b1.getD t2 Dop.d7).f ((b1.getD t2 Dop.d7).regs.set b2.dst.toNat ((b1.getD t2 Dop.d7).regs.getD b2.a.toNat (0 : Int))) (b1.getD t2 Dop.d7).base (b1.getD t2 Dop.d7).at_ (b1.getD t2 Dop.d7).dst), (b0_5, (b0_6, (b0_7, (b0_8, ()))))))))), ()))
          else none
          else none
          else none
          else none
          else none
          else none
         else
          if (decide (b2.kind = (5 : Int))) = true then
           if (decide (t2 < b1.length)) = true then
           if (decide (t2 < b1.length)) = true then
           if (inR ((b1.getD t2 Dop.d7).base + b2.n)) = true then
           (Try.m39 ((b1.getD t2 Dop.d7).base + b2.n)).bind fun y11 =>
            if (decide (t2 < b1.length ∧ (0 : Int) ≤ b2.dst ∧ b2.dst < I (b1.getD t2 Dop.d7).regs.length)) = true then
            if (decide (t2 < b1.length ∧ b2.dst.toNat < (b1.getD t2 Dop.d7).regs.length)) = true then
            some ((), ((b0_0, (b0_1, (b0_2, (b0_3, (b1.set t2 (Dop.Frm.mk (b1.getD t2 Dop.d7).f ((b1.getD t2 Dop.d7).regs.set b2.dst.toNat y11.fst.fst) (b1.getD t2 Dop.d7).base (b1.getD t2 Dop.d7).at_ (b1.getD t2 Dop.d7).dst), (b0_5, (b0_6, (b0_7, (b0_8, ()))))))))), ()))
            else none
            else none
           else none
           else none
           else none
          else
           if (decide (b2.kind = (2 : Int))) = true then
            if (decide (b2.kind = (2 : Int))) = true then
             if (decide (b2.kind = (3 : Int))) = true then
              if (decide (t2 < b1.length)) = true then
              if (decide (t2 < b1.length ∧ (0 : Int) ≤ b2.b ∧ b2.b < I (b1.getD t2 Dop.d7).regs.length)) = true then
              if (decide (t2 < b1.length) && decide (b2.b.toNat < (b1.getD t2 Dop.d7).regs.length)) = true then
              if (decide (t2 < b1.length)) = true then
              if (decide (t2 < b1.length ∧ (0 : Int) ≤ b2.a ∧ b2.a < I (b1.getD t2 Dop.d7).regs.length)) = true then
              if (decide (t2 < b1.length) && decide (b2.a.toNat < (b1.getD t2 Dop.d7).regs.length)) = true then
              (Try.m47 (b2.op) ((b1.getD t2 Dop.d7).regs.getD b2.a.toNat (0 : Int)) ((b1.getD t2 Dop.d7).regs.getD b2.b.toNat (0 : Int))).bind fun y14 =>
               if (!y14.fst.snd.fst) = true then
                some ((), ((b0_0, (b0_1, (b0_2, (b0_3, (b1, (true, ((2 : Int), ((2 : Int), (b0_8, ()))))))))), ()))
               else
                if (decide (t2 < b1.length)) = true then
                if (decide (t2 < b1.length ∧ (0 : Int) ≤ b2.dst ∧ b2.dst < I (b1.getD t2 Dop.d7).regs.length)) = true then
                if (decide (t2 < b1.length ∧ b2.dst.toNat < (b1.getD t2 Dop.d7).regs.length)) = true then
                some ((), ((b0_0, (b0_1, (b0_2, (b0_3, (b1.set t2 (Dop.Frm.mk (b1.getD t2 Dop.d7).f ((b1.getD t2 Dop.d7).regs.set b2.dst.toNat y14.fst.fst) (b1.getD t2 Dop.d7).base (b1.getD t2 Dop.d7).at_ (b1.getD t2 Dop.d7).dst), (b0_5, (b0_6, (b0_7, (b0_8, ()))))))))), ()))
                else none
                else none
                else none
              else none
              else none
              else none
              else none
              else none
              else none
             else
              if (decide (t2 < b1.length)) = true then
              if (decide (t2 < b1.length ∧ (0 : Int) ≤ b2.a ∧ b2.a < I (b1.getD t2 Dop.d7).regs.length)) = true then
              if (decide (t2 < b1.length) && decide (b2.a.toNat < (b1.getD t2 Dop.d7).regs.length)) = true then
              (Try.m47 (b2.op) ((b1.getD t2 Dop.d7).regs.getD b2.a.toNat (0 : Int)) ((0 : Int))).bind fun y14 =>
               if (!y14.fst.snd.fst) = true then
                some ((), ((b0_0, (b0_1, (b0_2, (b0_3, (b1, (true, ((2 : Int), ((2 : Int), (b0_8, ()))))))))), ()))
               else
                if (decide (t2 < b1.length)) = true then
                if (decide (t2 < b1.length ∧ (0 : Int) ≤ b2.dst ∧ b2.dst < I (b1.getD t2 Dop.d7).regs.length)) = true then
                if (decide (t2 < b1.length ∧ b2.dst.toNat < (b1.getD t2 Dop.d7).regs.length)) = true then
                some ((), ((b0_0, (b0_1, (b0_2, (b0_3, (b1.set t2 (Dop.Frm.mk (b1.getD t2 Dop.d7).f ((b1.getD t2 Dop.d7).regs.set b2.dst.toNat y14.fst.fst) (b1.getD t2 Dop.d7).base (b1.getD t2 Dop.d7).at_ (b1.getD t2 Dop.d7).dst), (b0_5, (b0_6, (b0_7, (b0_8, ()))))))))), ()))
                else none
                else none
                else none
              else none
              else none
              else none
            else
             some ((), ((b0_0, (b0_1, (b0_2, (b0_3, (b1, (b0_5, (b0_6, (b0_7, (b0_8, ()))))))))), ()))
           else
            if (decide (b2.kind = (3 : Int))) = true then
             if (decide (b2.kind = (3 : Int))) = true then
              if (decide (t2 < b1.length)) = true then
              if (decide (t2 < b1.length ∧ (0 : Int) ≤ b2.b ∧ b2.b < I (b1.getD t2 Dop.d7).regs.length)) = true then
              if (decide (t2 < b1.length) && decide (b2.b.toNat < (b1.getD t2 Dop.d7).regs.length)) = true then
              if (decide (t2 < b1.length)) = true then
              if (decide (t2 < b1.length ∧ (0 : Int) ≤ b2.a ∧ b2.a < I (b1.getD t2 Dop.d7).regs.length)) = true then
              if (decide (t2 < b1.length) && decide (b2.a.toNat < (b1.getD t2 Dop.d7).regs.length)) = true then
              (Try.m47 (b2.op) ((b1.getD t2 Dop.d7).regs.getD b2.a.toNat (0 : Int)) ((b1.getD t2 Dop.d7).regs.getD b2.b.toNat (0 : Int))).bind fun y14 =>
               if (!y14.fst.snd.fst) = true then
                some ((), ((b0_0, (b0_1, (b0_2, (b0_3, (b1, (true, ((2 : Int), ((2 : Int), (b0_8, ()))))))))), ()))
               else
                if (decide (t2 < b1.length)) = true then
                if (decide (t2 < b1.length ∧ (0 : Int) ≤ b2.dst ∧ b2.dst < I (b1.getD t2 Dop.d7).regs.length)) = true then
                if (decide (t2 < b1.length ∧ b2.dst.toNat < (b1.getD t2 Dop.d7).regs.length)) = true then
                some ((), ((b0_0, (b0_1, (b0_2, (b0_3, (b1.set t2 (Dop.Frm.mk (b1.getD t2 Dop.d7).f ((b1.getD t2 Dop.d7).regs.set b2.dst.toNat y14.fst.fst) (b1.getD t2 Dop.d7).base (b1.getD t2 Dop.d7).at_ (b1.getD t2 Dop.d7).dst), (b0_5, (b0_6, (b0_7, (b0_8, ()))))))))), ()))
                else none
                else none
                else none
              else none
              else none
              else none
              else none
              else none
              else none
             else
              if (decide (t2 < b1.length)) = true then
              if (decide (t2 < b1.length ∧ (0 : Int) ≤ b2.a ∧ b2.a < I (b1.getD t2 Dop.d7).regs.length)) = true then
              if (decide (t2 < b1.length) && decide (b2.a.toNat < (b1.getD t2 Dop.d7).regs.length)) = true then
              (Try.m47 (b2.op) ((b1.getD t2 Dop.d7).regs.getD b2.a.toNat (0 : Int)) ((0 : Int))).bind fun y14 =>
               if (!y14.fst.snd.fst) = true then
                some ((), ((b0_0, (b0_1, (b0_2, (b0_3, (b1, (true, ((2 : Int), ((2 : Int), (b0_8, ()))))))))), ()))
               else
                if (decide (t2 < b1.length)) = true then
                if (decide (t2 < b1.length ∧ (0 : Int) ≤ b2.dst ∧ b2.dst < I (b1.getD t2 Dop.d7).regs.length)) = true then
                if (decide (t2 < b1.length ∧ b2.dst.toNat < (b1.getD t2 Dop.d7).regs.length)) = true then
                some ((), ((b0_0, (b0_1, (b0_2, (b0_3, (b1.set t2 (Dop.Frm.mk (b1.getD t2 Dop.d7).f ((b1.getD t2 Dop.d7).regs.set b2.dst.toNat y14.fst.fst) (b1.getD t2 Dop.d7).base (b1.getD t2 Dop.d7).at_ (b1.getD t2 Dop.d7).dst), (b0_5, (b0_6, (b0_7, (b0_8, ()))))))))), ()))
                else none
                else none
                else none
              else none
              else none
              else none
            else
             some ((), ((b0_0, (b0_1, (b0_2, (b0_3, (b1, (b0_5, (b0_6, (b0_7, (b0_8, ()))))))))), ())) := Env.cut_eq' (E := Try.m27.E) (f0 := 3000) (c := 8) (q := ⟨[[0, 0, 1, 1, 0, 1, 1, 1, 1], [0, 1, 1, 1, 0, 1, 1, 1, 1], [1, 0]], [0, 2, 3, 37], 3, ⟨[.al 0 0, .ep 1 9 0, .al 2 0, .fd (.int .i64)], [⟨0, 58, [.mp (.str) 4 true, .own 0 3, .fd (.int .i64), .fd (.sl 2), .rw 1, .fd .bool, .fd (.int .i64), .fd (.int .i64), .own 2 5], false⟩, ⟨1, 0, [.dp 7 67], true⟩, ⟨2, 46, [.st 3], false⟩]⟩⟩) (by kernel_rfl) (((), t2, (), t37, ()), ((b0_0, b0_1, b0_2, b0_3, (), b0_5, b0_6, b0_7, b0_8, ()), (b1, ()), (b2, ()), ())) (by kernel_rfl) (by kernel_rfl)
theorem Try.m27_11_eq (t2 : Nat) (t4 : List (Int)) (t52 : List (Int)) (t53 : Int) (t54 : Int) (b0_0 : List (List UInt8 × En.Dop.Fnc)) (b0_1 : List (Int)) (b0_2 : Int) (b0_3 : List (Int)) (b0_5 : Bool) (b0_6 : Int) (b0_7 : Int) (b0_8 : List (Int)) (b1 : List (En.Dop.Frm)) (b2 : En.Dop.Ins) : Try.m27_11 t2 t4 t52 t53 t54 b0_0 b0_1 b0_2 b0_3 b0_5 b0_6 b0_7 b0_8 b1 b2 =
  if (decide (t54 < t53)) = true then
   if (decide ((0 : Int) ≤ t54 ∧ t54 < I t52.length)) = true then
   if (decide (t54.toNat < t52.length)) = true then
   if (decide (t2 < b1.length)) = true then
   if (decide (t2 < b1.length ∧ (0 : Int) ≤ t52.getD t54.toNat (0 : Int) ∧ t52.getD t54.toNat (0 : Int) < I (b1.getD t2 Dop.d7).regs.length)) = true then
   if (decide (t2 < b1.length) && decide ((t52.getD t54.toNat (0 : Int)).toNat < (b1.getD t2 Dop.d7).regs.length)) = true then
   if (andC none (room (8 : Nat) (t4.length + ((b1.getD t2 Dop.d7).regs.getD (t52.getD t54.toNat (0 : Int)).toNat (0 : Int) :: @List.nil Int).length))) = true then
   if (inR (t54 + (1 : Int))) = true then
   Try.m27_11 (t2) (t4 ++ (b1.getD t2 Dop.d7).regs.getD (t52.getD t54.toNat (0 : Int)).toNat (0 : Int) :: @List.nil Int) (t52) (t53) (t54 + (1 : Int)) (b0_0) (b0_1) (b0_2) (b0_3) (b0_5) (b0_6) (b0_7) (b0_8) (b1) (b2)
   else none
   else none
   else none
   else none
   else none
   else none
   else none
  else
   if (inR (b0_2 + ((mlookS b0_0 b2.text).getD Dop.d4).frame)) = true then
   if (decide (I b0_1.length < b0_2 + ((mlookS b0_0 b2.text).getD Dop.d4).frame)) = true then
    some ((), ((b0_0, (b0_1, (b0_2, (b0_3, (b1, (true, ((3 : Int), ((0 : Int), (b0_8, ()))))))))), ()))
   else
    if (decide ((0 : Int) ≤ ((mlookS b0_0 b2.text).getD Dop.d4).regs ∧ ((mlookS b0_0 b2.text).getD Dop.d4).regs ≤ ((mlookS b0_0 b2.text).getD Dop.d4).regs ∧ ((mlookS b0_0 b2.text).getD Dop.d4).regs * (I (8 : Nat) + (1 : Int)) ≤ (140737488355328 : Int))) = true then
    if (inR (b0_2 + ((mlookS b0_0 b2.text).getD Dop.d4).frame)) = true then
    if (room (112 : Nat) (b1.length + (Dop.Frm.mk ((mlookS b0_0 b2.text).getD Dop.d4) (List.take (List.replicate ((mlookS b0_0 b2.text).getD Dop.d4).regs.toNat (0 : Int)).length t4 ++ List.drop t4.length (List.replicate ((mlookS b0_0 b2.text).getD Dop.d4).regs.toNat (0 : Int))) b0_2 (0 : Int) b2.dst :: @List.nil Dop.Frm).length)) = true then
    some ((), ((b0_0, (b0_1, (b0_2 + ((mlookS b0_0 b2.text).getD Dop.d4).frame, (b0_3, (b1 ++ Dop.Frm.mk ((mlookS b0_0 b2.text).getD Dop.d4) (List.take (List.replicate ((mlookS b0_0 b2.text).getD Dop.d4).regs.toNat (0 : Int)).length t4 ++ List.drop t4.length (List.replicate ((mlookS b0_0 b2.text).getD Dop.d4).regs.toNat (0 : Int))) b0_2 (0 : Int) b2.dst :: @List.nil Dop.Frm, (b0_5, (b0_6, (b0_7, (b0_8, ()))))))))), ()))
    else none
    else none
    else none
   else none := Env.cut_eq' (E := Try.m27.E) (f0 := 3000) (c := 11) (q := ⟨[[0, 0, 0, 0, 1, 0, 1, 0, 1, 1, 1, 0, 1, 1, 1, 1], [0, 1, 0, 0, 1, 0, 1, 0, 1, 1, 1, 0, 1, 1, 1, 1], [2, 0, 0, 1, 0, 1, 0, 1, 1, 1, 0, 1, 1, 1, 1], [1, 1], [0, 1, 1, 0, 1, 1, 1, 0, 1, 1, 1, 1], [1, 0]], [0, 2, 3, 4, 52, 53, 54], 3, ⟨[.al 0 0, .ep 1 9 0, .al 2 0, .own 0 3, .own 0 3, .fd (.int .i64), .fd (.int .i64)], [⟨0, 58, [.mp (.str) 4 true, .own 0 3, .fd (.int .i64), .fd (.sl 2), .rw 1, .fd .bool, .fd (.int .i64), .fd (.int .i64), .own 2 5], false⟩, ⟨1, 0, [.dp 7 67], true⟩, ⟨2, 46, [.st 3], false⟩]⟩⟩) (by kernel_rfl) (((), t2, (), t4, t52, t53, t54, ()), ((b0_0, b0_1, b0_2, b0_3, (), b0_5, b0_6, b0_7, b0_8, ()), (b1, ()), (b2, ()), ())) (by kernel_rfl) (by kernel_rfl)

def Try.m15.p : Pln := ⟨[(6, ⟨[[0, 0, 0, 0, 1, 0, 1, 1, 1, 1], [0, 1, 0, 0, 1, 0, 1, 1, 1, 1], [2, 0, 0, 1, 0, 1, 1, 1, 1], [1, 0], [0, 1, 1, 1, 1, 1]], [2, 3, 6, 7, 8, 40, 41, 42], 3, ⟨[.fd (.int .i64), .al 0 0, .al 1 0, .fd (.int .i64), .al 2 0, .fd (.sl 5), .fd (.int .i64), .fd (.int .i64)], [⟨0, 25, [.st 6], false⟩, ⟨1, 36, [.fd (.int .i64), .fd (.int .i64), .own 2 5], false⟩, ⟨2, 58, [.mp (.str) 4 true, .own 0 3, .fd (.int .i64), .fd (.sl 2), .dp 7 67, .fd .bool, .fd (.int .i64), .fd (.int .i64), .own 2 5], false⟩]⟩⟩), (12, ⟨[[0, 0, 0, 0, 1, 0, 1, 1, 1, 1, 1], [0, 1, 0, 0, 1, 0, 1, 1, 1, 1, 1], [2, 0, 0, 1, 0, 1, 1, 1, 1, 1], [1, 2], [0, 1, 1, 1, 1, 1, 1]], [2, 3, 6, 7, 8, 65, 66, 67], 3, ⟨[.fd (.int .i64), .al 0 0, .al 1 0, .fd (.int .i64), .al 2 0, .fd (.sl 4), .fd (.int .i64), .fd (.int .i64)], [⟨0, 25, [.st 6], false⟩, ⟨1, 36, [.fd (.int .i64), .fd (.int .i64), .own 2 5], false⟩, ⟨2, 58, [.mp (.str) 4 true, .own 0 3, .fd (.int .i64), .fd (.sl 2), .dp 7 67, .fd .bool, .fd (.int .i64), .fd (.int .i64), .own 2 5], false⟩]⟩⟩), (18, ⟨[[0, 0, 0, 0, 0, 1, 0, 1, 1, 1, 1, 1, 1, 1], [0, 1, 0, 0, 0, 1, 0, 1, 1, 1, 1, 1, 1, 1], [0, 1, 0, 0, 1, 0, 1, 1, 1, 1, 1, 1, 1], [2, 0, 0, 1, 0, 1, 1, 1, 1, 1, 1, 1], [1, 4], [0, 1, 1, 1, 1, 1, 1, 1, 1]], [2, 6, 8], 2, ⟨[.fd (.int .i64), .al 0 0, .al 1 0], [⟨0, 36, [.fd (.int .i64), .fd (.int .i64), .own 2 5], false⟩, ⟨1, 58, [.mp (.str) 4 true, .own 0 3, .fd (.int .i64), .fd (.sl 2), .dp 7 67, .fd .bool, .fd (.int .i64), .fd (.int .i64), .own 2 5], false⟩]⟩⟩)], 0, ⟨[.st 6, .fd (.sl 2), .fd (.int .i64)], []⟩, ⟨[.st 8], []⟩, false, [(4, ⟨[(0, false), (1, false), (2, true), (3, false), (4, true), (5, true), (6, false), (7, true)], [], [0, 0, 0, 4, 0, 31, 63, 127], false⟩), (8, ⟨[(0, true), (1, false), (2, true), (3, true), (4, true), (5, false), (6, false), (7, true)], [], [0, 1, 0, 4, 12, 28, 60, 127], false⟩), (9, ⟨[(0, true), (1, true), (2, true), (3, false), (4, true), (5, false), (6, true), (7, false), (8, false)], [9], [0, 1, 3, 7, 0, 16, 0, 64, 255, 511], false⟩), (14, ⟨[(0, true), (1, true), (2, true), (3, false), (4, true), (5, false), (6, false)], [7], [0, 1, 3, 7, 0, 16, 0, 127], false⟩)], [(26, [(1, ⟨[(0, true), (1, true), (2, true), (3, false), (4, true), (5, false), (6, true), (7, true), (8, true), (9, true), (10, false), (11, false), (12, true)], [], [0, 1, 3, 7, 0, 16, 63, 0, 128, 384, 896, 1920, 4095], false⟩), (3, ⟨[(0, false), (1, true), (2, false), (3, false), (4, true), (5, true), (6, true), (7, false), (8, true), (9, true), (10, false)], [11], [0, 0, 2, 6, 0, 16, 48, 112, 0, 511, 0, 2047], false⟩), (5, ⟨[(0, true), (1, true), (2, true), (3, false), (4, true), (5, false), (6, true), (7, true), (8, true)], [9], [0, 1, 3, 7, 0, 16, 63, 127, 255, 511], false⟩), (6, ⟨[(0, true), (1, true), (2, true), (3, true), (4, false), (5, false), (6, false)], [7, 8, 9, 10], [0, 0, 2, 6, 14, 0, 32, 126, 255, 511, 1023], false⟩)]), (28, [])]⟩
noncomputable def Try.m15.E : Env En.Dop.D7 := envOf Try.prog 15 Try.tb [Try.m13.c, Try.m11.c, Try.m27.c] Try.m15.p
theorem Try.m15.ok : plnOk En.Dop.D7 Try.prog 15 Try.m15.p = true := by kernel_rfl
noncomputable def Try.m15.c : Ctr En.Dop.D7 := ⟨15, Try.m15.p.bn, Try.m15.p.sp, Try.m15.p.rs, Try.m15.p.flat, .opt (Try.m15.E.run 3000 Try.m15.p.sp)⟩
theorem Try.m15.holds : Try.m15.c.Holds Try.prog := fun_ctr 3000 Try.tbOk (hct_cons Try.m13.holds (hct_cons Try.m11.holds (hct_cons Try.m27.holds hct_nil))) Try.m15.ok
noncomputable def Try.m15 (o : En.Dop.Unt) (t1 : List (Int)) (t2 : Int) : Option (Spec.D En.Dop.D7 ⟨[.st 8], []⟩) := Try.m15.E.run 3000 Try.m15.p.sp ((o, t1, t2, ()), ())
noncomputable def Try.m15_6 (t2 : Int) (t7 : Int) (t40 : List (En.Dop.Glb)) (t41 : Int) (t42 : Int) (b0 : En.Dop.Unt) (b1_0 : Int) (b1_1 : Int) (b1_2 : List (Int)) (b2_0 : List (List UInt8 × En.Dop.Fnc)) (b2_1 : List (Int)) (b2_2 : Int) (b2_3 : List (Int)) (b2_4 : List (En.Dop.Frm)) (b2_5 : Bool) (b2_6 : Int) (b2_7 : Int) (b2_8 : List (Int)) : Option (Spec.D En.Dop.D7 ⟨[.st 8], []⟩) := Try.m15.E.cut 3000 6 ((t2, (), (), t7, (), t40, t41, t42, ()), ((b0, ()), (b1_0, b1_1, b1_2, ()), (b2_0, b2_1, b2_2, b2_3, b2_4, b2_5, b2_6, b2_7, b2_8, ()), ()))
noncomputable def Try.m15_12 (t2 : Int) (t7 : Int) (t65 : List (En.Dop.Fnc)) (t66 : Int) (t67 : Int) (b0 : En.Dop.Unt) (b1_0 : Int) (b1_1 : Int) (b1_2 : List (Int)) (b2_0 : List (List UInt8 × En.Dop.Fnc)) (b2_1 : List (Int)) (b2_2 : Int) (b2_3 : List (Int)) (b2_4 : List (En.Dop.Frm)) (b2_5 : Bool) (b2_6 : Int) (b2_7 : Int) (b2_8 : List (Int)) : Option (Spec.D En.Dop.D7 ⟨[.st 8], []⟩) := Try.m15.E.cut 3000 12 ((t2, (), (), t7, (), t65, t66, t67, ()), ((b0, ()), (b1_0, b1_1, b1_2, ()), (b2_0, b2_1, b2_2, b2_3, b2_4, b2_5, b2_6, b2_7, b2_8, ()), ()))
noncomputable def Try.m15_18 (t2 : Int) (b0_0 : Int) (b0_1 : Int) (b0_2 : List (Int)) (b1_0 : List (List UInt8 × En.Dop.Fnc)) (b1_1 : List (Int)) (b1_2 : Int) (b1_3 : List (Int)) (b1_4 : List (En.Dop.Frm)) (b1_5 : Bool) (b1_6 : Int) (b1_7 : Int) (b1_8 : List (Int)) : Option (Spec.D En.Dop.D7 ⟨[.st 8], []⟩) := Try.m15.E.cut 3000 18 ((t2, (), (), ()), ((b0_0, b0_1, b0_2, ()), (b1_0, b1_1, b1_2, b1_3, b1_4, b1_5, b1_6, b1_7, b1_8, ()), ()))
theorem Try.m15_eq (o : En.Dop.Unt) (t1 : List (Int)) (t2 : Int) : Try.m15 o t1 t2 =
  (Try.m13 (o) ((109 : UInt8) :: (97 : UInt8) :: (105 : UInt8) :: (110 : UInt8) :: @List.nil UInt8)).bind fun y2 =>
   (Try.m11 (o)).bind fun y3 =>
    if (!y3.fst.fst) = true then
     some ((Dop.Res.mk (4 : Int) (0 : Int) (@List.nil Int), ()), ())
    else
     if (decide (y2.fst.fst < (0 : Int))) = true then
      some ((Dop.Res.mk (4 : Int) (0 : Int) (@List.nil Int), ()), ())
     else
      if (decide ((0 : Int) ≤ y2.fst.fst ∧ y2.fst.fst < I o.funcs.length)) = true then
      if (decide ((0 : Int) < (o.funcs.getD y2.fst.fst.toNat Dop.d4).params)) = true then
       some ((Dop.Res.mk (4 : Int) (0 : Int) (@List.nil Int), ()), ())
      else
       if (decide ((0 : Int) ≤ (4096 : Int) ∧ (4096 : Int) ≤ (4096 : Int) ∧ (4096 : Int) * (I (8 : Nat) + (1 : Int)) ≤ (140737488355328 : Int))) = true then
       Try.m15_6 (t2) (y2.fst.fst) (o.globals) (I o.globals.length) ((0 : Int)) (o) ((0 : Int)) ((0 : Int)) (@List.nil Int) (@List.nil (List UInt8 × Dop.Fnc)) (List.replicate (Int.toNat (4096 : Int)) (0 : Int)) (o.top) (t1) (@List.nil Dop.Frm) (false) ((0 : Int)) ((0 : Int)) (@List.nil Int)
       else none
      else none := by kernel_rfl
theorem Try.m15_6_eq (t2 : Int) (t7 : Int) (t40 : List (En.Dop.Glb)) (t41 : Int) (t42 : Int) (b0 : En.Dop.Unt) (b1_0 : Int) (b1_1 : Int) (b1_2 : List (Int)) (b2_0 : List (List UInt8 × En.Dop.Fnc)) (b2_1 : List (Int)) (b2_2 : Int) (b2_3 : List (Int)) (b2_4 : List (En.Dop.Frm)) (b2_5 : Bool) (b2_6 : Int) (b2_7 : Int) (b2_8 : List (Int)) : Try.m15_6 t2 t7 t40 t41 t42 b0 b1_0 b1_1 b1_2 b2_0 b2_1 b2_2 b2_3 b2_4 b2_5 b2_6 b2_7 b2_8 =
  if (decide (t42 < t41)) = true then
   if (decide ((0 : Int) ≤ t42 ∧ t42 < I t40.length)) = true then
   if (decide ((t40.getD t42.toNat Dop.d5).at_ < I b2_1.length)) = true then
    if (decide ((0 : Int) ≤ (t40.getD t42.toNat Dop.d5).at_ ∧ (t40.getD t42.toNat Dop.d5).at_ < I b2_1.length)) = true then
    if (decide ((t40.getD t42.toNat Dop.d5).at_.toNat < b2_1.length)) = true then
    if (inR (t42 + (1 : Int))) = true then
    Try.m15_6 (t2) (t7) (t40) (t41) (t42 + (1 : Int)) (b0) (b1_0) (b1_1) (b1_2) (b2_0) (b2_1.set (t40.getD t42.toNat Dop.d5).at_.toNat (t40.getD t42.toNat Dop.d5).init_) (b2_2) (b2_3) (b2_4) (b2_5) (b2_6) (b2_7) (b2_8)
    else none
    else none
    else none
   else
    if (inR (t42 + (1 : Int))) = true then
    Try.m15_6 (t2) (t7) (t40) (t41) (t42 + (1 : Int)) (b0) (b1_0) (b1_1) (b1_2) (b2_0) (b2_1) (b2_2) (b2_3) (b2_4) (b2_5) (b2_6) (b2_7) (b2_8)
    else none
   else none
  else
   Try.m15_12 (t2) (t7) (b0.funcs) (I b0.funcs.length) ((0 : Int)) (b0) (b1_0) (b1_1) (b1_2) (b2_0) (b2_1) (b2_2) (b2_3) (b2_4) (b2_5) (b2_6) (b2_7) (b2_8) := Env.cut_eq' (E := Try.m15.E) (f0 := 3000) (c := 6) (q := ⟨[[0, 0, 0, 0, 1, 0, 1, 1, 1, 1], [0, 1, 0, 0, 1, 0, 1, 1, 1, 1], [2, 0, 0, 1, 0, 1, 1, 1, 1], [1, 0], [0, 1, 1, 1, 1, 1]], [2, 3, 6, 7, 8, 40, 41, 42], 3, ⟨[.fd (.int .i64), .al 0 0, .al 1 0, .fd (.int .i64), .al 2 0, .fd (.sl 5), .fd (.int .i64), .fd (.int .i64)], [⟨0, 25, [.st 6], false⟩, ⟨1, 36, [.fd (.int .i64), .fd (.int .i64), .own 2 5], false⟩, ⟨2, 58, [.mp (.str) 4 true, .own 0 3, .fd (.int .i64), .fd (.sl 2), .dp 7 67, .fd .bool, .fd (.int .i64), .fd (.int .i64), .own 2 5], false⟩]⟩⟩) (by kernel_rfl) ((t2, (), (), t7, (), t40, t41, t42, ()), ((b0, ()), (b1_0, b1_1, b1_2, ()), (b2_0, b2_1, b2_2, b2_3, b2_4, b2_5, b2_6, b2_7, b2_8, ()), ())) (by kernel_rfl) (by kernel_rfl)
theorem Try.m15_12_eq (t2 : Int) (t7 : Int) (t65 : List (En.Dop.Fnc)) (t66 : Int) (t67 : Int) (b0 : En.Dop.Unt) (b1_0 : Int) (b1_1 : Int) (b1_2 : List (Int)) (b2_0 : List (List UInt8 × En.Dop.Fnc)) (b2_1 : List (Int)) (b2_2 : Int) (b2_3 : List (Int)) (b2_4 : List (En.Dop.Frm)) (b2_5 : Bool) (b2_6 : Int) (b2_7 : Int) (b2_8 : List (Int)) : Try.m15_12 t2 t7 t65 t66 t67 b0 b1_0 b1_1 b1_2 b2_0 b2_1 b2_2 b2_3 b2_4 b2_5 b2_6 b2_7 b2_8 =
  if (decide (t67 < t66)) = true then
   if (decide ((0 : Int) ≤ t67 ∧ t67 < I t65.length)) = true then
   if (inR (t67 + (1 : Int))) = true then
   Try.m15_12 (t2) (t7) (t65) (t66) (t67 + (1 : Int)) (b0) (b1_0) (b1_1) (b1_2) (mputS b2_0 (t65.getD t67.toNat Dop.d4).name (t65.getD t67.toNat Dop.d4)) (b2_1) (b2_2) (b2_3) (b2_4) (b2_5) (b2_6) (b2_7) (b2_8)
   else none
   else none
  else
   if (decide ((0 : Int) ≤ t7 ∧ t7 < I b0.funcs.length)) = true then
   if (inR (b2_2 + (b0.funcs.getD t7.toNat Dop.d4).frame)) = true then
   if (decide (I b2_1.length < b2_2 + (b0.funcs.getD t7.toNat Dop.d4).frame)) = true then
    Try.m15_18 (if (1000000 : Int) < if t2 < (0 : Int) then (0 : Int) else t2 then (1000000 : Int) else if t2 < (0 : Int) then (0 : Int) else t2) (b1_0) (b1_1) (b1_2) (b2_0) (b2_1) (b2_2) (b2_3) (b2_4) (true) ((3 : Int)) ((0 : Int)) (b2_8)
   else
    if (decide ((0 : Int) ≤ (b0.funcs.getD t7.toNat Dop.d4).regs ∧ (b0.funcs.getD t7.toNat Dop.d4).regs ≤ (b0.funcs.getD t7.toNat Dop.d4).regs ∧ (b0.funcs.getD t7.toNat Dop.d4).regs * (I (8 : Nat) + (1 : Int)) ≤ (140737488355328 : Int))) = true then
    if (inR (b2_2 + (b0.funcs.getD t7.toNat Dop.d4).frame)) = true then
    if (room (112 : Nat) (b2_4.length + (Dop.Frm.mk (b0.funcs.getD t7.toNat Dop.d4) (List.take (List.replicate (b0.funcs.getD t7.toNat Dop.d4).regs.toNat (0 : Int)).length (@List.nil Int) ++ List.drop (@List.nil Int).length (List.replicate (b0.funcs.getD t7.toNat Dop.d4).regs.toNat (0 : Int))) b2_2 (0 : Int) (-1 : Int) :: @List.nil Dop.Frm).length)) = true then
    Try.m15_18 (if (1000000 : Int) < if t2 < (0 : Int) then (0 : Int) else t2 then (1000000 : Int) else if t2 < (0 : Int) then (0 : Int) else t2) (b1_0) (b1_1) (b1_2) (b2_0) (b2_1) (b2_2 + (b0.funcs.getD t7.toNat Dop.d4).frame) (b2_3) (b2_4 ++ Dop.Frm.mk (b0.funcs.getD t7.toNat Dop.d4) (List.take (List.replicate (b0.funcs.getD t7.toNat Dop.d4).regs.toNat (0 : Int)).length (@List.nil Int) ++ List.drop (@List.nil Int).length (List.replicate (b0.funcs.getD t7.toNat Dop.d4).regs.toNat (0 : Int))) b2_2 (0 : Int) (-1 : Int) :: @List.nil Dop.Frm) (b2_5) (b2_6) (b2_7) (b2_8)
    else none
    else none
    else none
   else none
   else none := Env.cut_eq' (E := Try.m15.E) (f0 := 3000) (c := 12) (q := ⟨[[0, 0, 0, 0, 1, 0, 1, 1, 1, 1, 1], [0, 1, 0, 0, 1, 0, 1, 1, 1, 1, 1], [2, 0, 0, 1, 0, 1, 1, 1, 1, 1], [1, 2], [0, 1, 1, 1, 1, 1, 1]], [2, 3, 6, 7, 8, 65, 66, 67], 3, ⟨[.fd (.int .i64), .al 0 0, .al 1 0, .fd (.int .i64), .al 2 0, .fd (.sl 4), .fd (.int .i64), .fd (.int .i64)], [⟨0, 25, [.st 6], false⟩, ⟨1, 36, [.fd (.int .i64), .fd (.int .i64), .own 2 5], false⟩, ⟨2, 58, [.mp (.str) 4 true, .own 0 3, .fd (.int .i64), .fd (.sl 2), .dp 7 67, .fd .bool, .fd (.int .i64), .fd (.int .i64), .own 2 5], false⟩]⟩⟩) (by kernel_rfl) ((t2, (), (), t7, (), t65, t66, t67, ()), ((b0, ()), (b1_0, b1_1, b1_2, ()), (b2_0, b2_1, b2_2, b2_3, b2_4, b2_5, b2_6, b2_7, b2_8, ()), ())) (by kernel_rfl) (by kernel_rfl)
theorem Try.m15_18_eq (t2 : Int) (b0_0 : Int) (b0_1 : Int) (b0_2 : List (Int)) (b1_0 : List (List UInt8 × En.Dop.Fnc)) (b1_1 : List (Int)) (b1_2 : Int) (b1_3 : List (Int)) (b1_4 : List (En.Dop.Frm)) (b1_5 : Bool) (b1_6 : Int) (b1_7 : Int) (b1_8 : List (Int)) : Try.m15_18 t2 b0_0 b0_1 b0_2 b1_0 b1_1 b1_2 b1_3 b1_4 b1_5 b1_6 b1_7 b1_8 =
  if (decide ((0 : Int) < t2)) = true then
   if (!b1_5) = true then
    (Try.m27 (b1_0) (b1_1) (b1_2) (b1_3) (b1_4) (b1_5) (b1_6) (b1_7) (b1_8)).bind fun y4 =>
     if (inR (t2 - (1 : Int))) = true then
     Try.m15_18 (t2 - (1 : Int)) (b0_0) (b0_1) (b0_2) (y4.snd.fst.fst) (y4.snd.fst.snd.fst) (y4.snd.fst.snd.snd.fst) (y4.snd.fst.snd.snd.snd.fst) (y4.snd.fst.snd.snd.snd.snd.fst) (y4.snd.fst.snd.snd.snd.snd.snd.fst) (y4.snd.fst.snd.snd.snd.snd.snd.snd.fst) (y4.snd.fst.snd.snd.snd.snd.snd.snd.snd.fst) (y4.snd.fst.snd.snd.snd.snd.snd.snd.snd.snd.fst)
     else none
   else
    if (!b1_5) = true then
     some ((Dop.Res.mk (4 : Int) (0 : Int) b1_8, ()), ())
    else
     some ((Dop.Res.mk b1_6 b1_7 b1_8, ()), ())
  else
   if (!b1_5) = true then
    some ((Dop.Res.mk (4 : Int) (0 : Int) b1_8, ()), ())
   else
    some ((Dop.Res.mk b1_6 b1_7 b1_8, ()), ()) := Env.cut_eq' (E := Try.m15.E) (f0 := 3000) (c := 18) (q := ⟨[[0, 0, 0, 0, 0, 1, 0, 1, 1, 1, 1, 1, 1, 1], [0, 1, 0, 0, 0, 1, 0, 1, 1, 1, 1, 1, 1, 1], [0, 1, 0, 0, 1, 0, 1, 1, 1, 1, 1, 1, 1], [2, 0, 0, 1, 0, 1, 1, 1, 1, 1, 1, 1], [1, 4], [0, 1, 1, 1, 1, 1, 1, 1, 1]], [2, 6, 8], 2, ⟨[.fd (.int .i64), .al 0 0, .al 1 0], [⟨0, 36, [.fd (.int .i64), .fd (.int .i64), .own 2 5], false⟩, ⟨1, 58, [.mp (.str) 4 true, .own 0 3, .fd (.int .i64), .fd (.sl 2), .dp 7 67, .fd .bool, .fd (.int .i64), .fd (.int .i64), .own 2 5], false⟩]⟩⟩) (by kernel_rfl) ((t2, (), (), ()), ((b0_0, b0_1, b0_2, ()), (b1_0, b1_1, b1_2, b1_3, b1_4, b1_5, b1_6, b1_7, b1_8, ()), ())) (by kernel_rfl) (by kernel_rfl)

def Try.m19.p : Pln := ⟨[], 0, ⟨[.st 3], []⟩, ⟨[.fd (.int .i64)], []⟩, true, [], []⟩
noncomputable def Try.m19.E : Env En.Dop.D7 := envOf Try.prog 19 Try.tb [Try.m29.c] Try.m19.p
theorem Try.m19.ok : plnOk En.Dop.D7 Try.prog 19 Try.m19.p = true := by kernel_rfl
noncomputable def Try.m19.c : Ctr En.Dop.D7 := ⟨19, Try.m19.p.bn, Try.m19.p.sp, Try.m19.p.rs, Try.m19.p.flat, .opt (Try.m19.E.run 3000 Try.m19.p.sp)⟩
theorem Try.m19.holds : Try.m19.c.Holds Try.prog := fun_ctr 3000 Try.tbOk (hct_cons Try.m29.holds hct_nil) Try.m19.ok
noncomputable def Try.m19 (i : En.Dop.Ins) : Option (Spec.D En.Dop.D7 ⟨[.fd (.int .i64)], []⟩) := Try.m19.E.run 3000 Try.m19.p.sp ((i, ()), ())
theorem Try.m19_eq (i : En.Dop.Ins) : Try.m19 i =
  (Try.m29 (i.kind)).bind fun y2 =>
   if (!y2.fst.fst) = true then
    some (((-1 : Int), ()), ())
   else
    some ((i.dst, ()), ()) := by kernel_rfl

def Try.m8.p : Pln := ⟨[], 0, ⟨[], []⟩, ⟨[.fd .bool], []⟩, true, [], []⟩
noncomputable def Try.m8.E : Env En.Dop.D7 := envOf Try.prog 8 Try.tb [Try.m18.c, Try.m15.c, Try.m11.c, Try.m19.c] Try.m8.p
theorem Try.m8.ok : plnOk En.Dop.D7 Try.prog 8 Try.m8.p = true := by kernel_rfl
noncomputable def Try.m8.c : Ctr En.Dop.D7 := ⟨8, Try.m8.p.bn, Try.m8.p.sp, Try.m8.p.rs, Try.m8.p.flat, .opt (Try.m8.E.run 3000 Try.m8.p.sp)⟩
theorem Try.m8.holds : Try.m8.c.Holds Try.prog := fun_ctr 3000 Try.tbOk (hct_cons Try.m18.holds (hct_cons Try.m15.holds (hct_cons Try.m11.holds (hct_cons Try.m19.holds hct_nil)))) Try.m8.ok
noncomputable def Try.m8 : Option (Spec.D En.Dop.D7 ⟨[.fd .bool], []⟩) := Try.m8.E.run 3000 Try.m8.p.sp ((), ())
theorem Try.m8_eq : Try.m8 =
  (Try.m18 ((1 : Int))).bind fun y2 =>
   (Try.m18 ((13 : Int))).bind fun y3 =>
    (Try.m15 (Dop.Unt.mk (Dop.Fnc.mk ((109 : UInt8) :: (97 : UInt8) :: (105 : UInt8) :: (110 : UInt8) :: @List.nil UInt8) (0 : Int) (1 : Int) (0 : Int) (Dop.Ins.mk y2.fst.fst.kind y2.fst.fst.op (0 : Int) y2.fst.fst.a y2.fst.fst.b (7 : Int) y2.fst.fst.text y2.fst.fst.args0 y2.fst.fst.args1 y2.fst.fst.args2 y2.fst.fst.args3 y2.fst.fst.args4 y2.fst.fst.args5 y2.fst.fst.to_ y2.fst.fst.else_ :: y3.fst.fst :: @List.nil Dop.Ins) :: @List.nil Dop.Fnc) (@List.nil Dop.Glb) (1 : Int)) (@List.nil Int) ((9 : Int))).bind fun y4 =>
     (Try.m11 (Dop.Unt.mk (Dop.Fnc.mk ((109 : UInt8) :: (97 : UInt8) :: (105 : UInt8) :: (110 : UInt8) :: @List.nil UInt8) (0 : Int) (1 : Int) (0 : Int) (Dop.Ins.mk y2.fst.fst.kind y2.fst.fst.op (0 : Int) y2.fst.fst.a y2.fst.fst.b (7 : Int) y2.fst.fst.text y2.fst.fst.args0 y2.fst.fst.args1 y2.fst.fst.args2 y2.fst.fst.args3 y2.fst.fst.args4 y2.fst.fst.args5 y2.fst.fst.to_ y2.fst.fst.else_ :: y3.fst.fst :: @List.nil Dop.Ins) :: @List.nil Dop.Fnc) (@List.nil Dop.Glb) (1 : Int))).bind fun y5 =>
      if (y5.fst.fst) = true then
       if (decide (y4.fst.fst.end_ = (1 : Int))) = true then
        if (decide (y4.fst.fst.code = (7 : Int))) = true then
         (Try.m19 (Dop.Ins.mk y2.fst.fst.kind y2.fst.fst.op (0 : Int) y2.fst.fst.a y2.fst.fst.b (7 : Int) y2.fst.fst.text y2.fst.fst.args0 y2.fst.fst.args1 y2.fst.fst.args2 y2.fst.fst.args3 y2.fst.fst.args4 y2.fst.fst.args5 y2.fst.fst.to_ y2.fst.fst.else_)).bind fun y9 =>
          some ((decide (y9.fst.fst = (0 : Int)), ()), ())
        else
         some ((false, ()), ())
       else
        some ((false, ()), ())
      else
       some ((false, ()), ()) := by kernel_rfl

def Try.m37.p : Pln := ⟨[(5, ⟨[[0, 0, 0, 1, 1, 1, 1], [0, 1, 0, 1, 1, 1, 1], [0, 1, 1, 1, 1, 1]], [1, 3, 4], 1, ⟨[.al 0 0, .own 0 3, .fd (.int .i64)], [⟨0, 46, [.st 3], false⟩]⟩⟩), (9, ⟨[[0, 0, 0, 0, 0, 1, 0, 1, 0, 1, 1, 1, 1, 1], [0, 1, 0, 0, 0, 1, 0, 1, 0, 1, 1, 1, 1, 1], [0, 1, 0, 0, 1, 0, 1, 0, 1, 1, 1, 1, 1], [2, 0, 0, 1, 0, 1, 0, 1, 1, 1, 1, 1], [1, 0], [0, 1, 1, 1, 1, 1, 1]], [1, 3, 5], 1, ⟨[.al 0 0, .own 0 3, .fd (.int .i64)], [⟨0, 46, [.st 3], false⟩]⟩⟩)], 0, ⟨[.st 3], []⟩, ⟨[.own 0 3], []⟩, true, [], []⟩
noncomputable def Try.m37.E : Env En.Dop.D7 := envOf Try.prog 37 Try.tb [] Try.m37.p
theorem Try.m37.ok : plnOk En.Dop.D7 Try.prog 37 Try.m37.p = true := by kernel_rfl
noncomputable def Try.m37.c : Ctr En.Dop.D7 := ⟨37, Try.m37.p.bn, Try.m37.p.sp, Try.m37.p.rs, Try.m37.p.flat, .opt (Try.m37.E.run 3000 Try.m37.p.sp)⟩
theorem Try.m37.holds : Try.m37.c.Holds Try.prog := fun_ctr 3000 Try.tbOk hct_nil Try.m37.ok
noncomputable def Try.m37 (o : En.Dop.Ins) : Option (Spec.D En.Dop.D7 ⟨[.own 0 3], []⟩) := Try.m37.E.run 3000 Try.m37.p.sp ((o, ()), ())
noncomputable def Try.m37_5 (t3 : List (Int)) (t4 : Int) (b0 : En.Dop.Ins) : Option (Spec.D En.Dop.D7 ⟨[.own 0 3], []⟩) := Try.m37.E.cut 3000 5 (((), t3, t4, ()), ((b0, ()), ()))
noncomputable def Try.m37_9 (t3 : List (Int)) (t5 : Int) (b0 : En.Dop.Ins) : Option (Spec.D En.Dop.D7 ⟨[.own 0 3], []⟩) := Try.m37.E.cut 3000 9 (((), t3, t5, ()), ((b0, ()), ()))
theorem Try.m37_eq (o : En.Dop.Ins) : Try.m37 o =
  if (decide (o.kind = (2 : Int))) = true then
   if (andC none (room (8 : Nat) ((@List.nil Int).length + (o.a :: @List.nil Int).length))) = true then
   Try.m37_5 (@List.nil Int ++ o.a :: @List.nil Int) (o.kind) (o)
   else none
  else
   if (decide (o.kind = (3 : Int))) = true then
    if (andC none (room (8 : Nat) ((@List.nil Int).length + (o.a :: @List.nil Int).length))) = true then
    Try.m37_5 (@List.nil Int ++ o.a :: @List.nil Int) (o.kind) (o)
    else none
   else
    if (decide (o.kind = (4 : Int))) = true then
     if (andC none (room (8 : Nat) ((@List.nil Int).length + (o.a :: @List.nil Int).length))) = true then
     Try.m37_5 (@List.nil Int ++ o.a :: @List.nil Int) (o.kind) (o)
     else none
    else
     if (decide (o.kind = (6 : Int))) = true then
      if (andC none (room (8 : Nat) ((@List.nil Int).length + (o.a :: @List.nil Int).length))) = true then
      Try.m37_5 (@List.nil Int ++ o.a :: @List.nil Int) (o.kind) (o)
      else none
     else
      if (decide (o.kind = (7 : Int))) = true then
       if (andC none (room (8 : Nat) ((@List.nil Int).length + (o.a :: @List.nil Int).length))) = true then
       Try.m37_5 (@List.nil Int ++ o.a :: @List.nil Int) (o.kind) (o)
       else none
      else
       if (decide (o.kind = (10 : Int))) = true then
        if (andC none (room (8 : Nat) ((@List.nil Int).length + (o.a :: @List.nil Int).length))) = true then
        Try.m37_5 (@List.nil Int ++ o.a :: @List.nil Int) (o.kind) (o)
        else none
       else
        if (decide (o.kind = (12 : Int))) = true then
         if (andC none (room (8 : Nat) ((@List.nil Int).length + (o.a :: @List.nil Int).length))) = true then
         Try.m37_5 (@List.nil Int ++ o.a :: @List.nil Int) (o.kind) (o)
         else none
        else
         if (decide (o.kind = (13 : Int))) = true then
          if (andC none (room (8 : Nat) ((@List.nil Int).length + (o.a :: @List.nil Int).length))) = true then
          Try.m37_5 (@List.nil Int ++ o.a :: @List.nil Int) (o.kind) (o)
          else none
         else
          Try.m37_5 (@List.nil Int) (o.kind) (o) := by kernel_rfl
theorem Try.m37_5_eq (t3 : List (Int)) (t4 : Int) (b0 : En.Dop.Ins) : Try.m37_5 t3 t4 b0 =
  if (decide (t4 = (3 : Int))) = true then
   if (andC none (room (8 : Nat) (t3.length + (b0.b :: @List.nil Int).length))) = true then
   if (decide (t4 = (8 : Int))) = true then
    Try.m37_9 (t3 ++ b0.b :: @List.nil Int) ((0 : Int)) (b0)
   else
    some ((t3 ++ b0.b :: @List.nil Int, ()), ())
   else none
  else
   if (decide (t4 = (7 : Int))) = true then
    if (andC none (room (8 : Nat) (t3.length + (b0.b :: @List.nil Int).length))) = true then
    if (decide (t4 = (8 : Int))) = true then
     Try.m37_9 (t3 ++ b0.b :: @List.nil Int) ((0 : Int)) (b0)
    else
     some ((t3 ++ b0.b :: @List.nil Int, ()), ())
    else none
   else
    if (decide (t4 = (8 : Int))) = true then
     Try.m37_9 (t3) ((0 : Int)) (b0)
    else
     some ((t3, ()), ()) := Env.cut_eq' (E := Try.m37.E) (f0 := 3000) (c := 5) (q := ⟨[[0, 0, 0, 1, 1, 1, 1], [0, 1, 0, 1, 1, 1, 1], [0, 1, 1, 1, 1, 1]], [1, 3, 4], 1, ⟨[.al 0 0, .own 0 3, .fd (.int .i64)], [⟨0, 46, [.st 3], false⟩]⟩⟩) (by kernel_rfl) (((), t3, t4, ()), ((b0, ()), ())) (by kernel_rfl) (by kernel_rfl)
theorem Try.m37_9_eq (t3 : List (Int)) (t5 : Int) (b0 : En.Dop.Ins) : Try.m37_9 t3 t5 b0 =
  if (decide (t5 < b0.n)) = true then
   if (decide (t5 < (6 : Int))) = true then
    if (decide ((0 : Int) ≤ t5 ∧ t5 < I (6 : Nat))) = true then
    if (decide (t5.toNat < (b0.args0 :: b0.args1 :: b0.args2 :: b0.args3 :: b0.args4 :: b0.args5 :: @List.nil Int).length)) = true then
    if (andC none (room (8 : Nat) (t3.length + ((b0.args0 :: b0.args1 :: b0.args2 :: b0.args3 :: b0.args4 :: b0.args5 :: @List.nil Int).getD t5.toNat (0 : Int) :: @List.nil Int).length))) = true then
    if (inR (t5 + (1 : Int))) = true then
    Try.m37_9 (t3 ++ (b0.args0 :: b0.args1 :: b0.args2 :: b0.args3 :: b0.args4 :: b0.args5 :: @List.nil Int).getD t5.toNat (0 : Int) :: @List.nil Int) (t5 + (1 : Int)) (b0)
    else none
    else none
    else none
    else none
   else
    some ((t3, ()), ())
  else
   some ((t3, ()), ()) := Env.cut_eq' (E := Try.m37.E) (f0 := 3000) (c := 9) (q := ⟨[[0, 0, 0, 0, 0, 1, 0, 1, 0, 1, 1, 1, 1, 1], [0, 1, 0, 0, 0, 1, 0, 1, 0, 1, 1, 1, 1, 1], [0, 1, 0, 0, 1, 0, 1, 0, 1, 1, 1, 1, 1], [2, 0, 0, 1, 0, 1, 0, 1, 1, 1, 1, 1], [1, 0], [0, 1, 1, 1, 1, 1, 1]], [1, 3, 5], 1, ⟨[.al 0 0, .own 0 3, .fd (.int .i64)], [⟨0, 46, [.st 3], false⟩]⟩⟩) (by kernel_rfl) (((), t3, t5, ()), ((b0, ()), ())) (by kernel_rfl) (by kernel_rfl)

def Try.m38.p : Pln := ⟨[], 0, ⟨[.st 3], []⟩, ⟨[.fd (.int .i64)], []⟩, true, [], []⟩
noncomputable def Try.m38.E : Env En.Dop.D7 := envOf Try.prog 38 Try.tb [] Try.m38.p
theorem Try.m38.ok : plnOk En.Dop.D7 Try.prog 38 Try.m38.p = true := by kernel_rfl
noncomputable def Try.m38.c : Ctr En.Dop.D7 := ⟨38, Try.m38.p.bn, Try.m38.p.sp, Try.m38.p.rs, Try.m38.p.flat, .opt (Try.m38.E.run 3000 Try.m38.p.sp)⟩
theorem Try.m38.holds : Try.m38.c.Holds Try.prog := fun_ctr 3000 Try.tbOk hct_nil Try.m38.ok
noncomputable def Try.m38 (i : En.Dop.Ins) : Option (Spec.D En.Dop.D7 ⟨[.fd (.int .i64)], []⟩) := Try.m38.E.run 3000 Try.m38.p.sp ((i, ()), ())
theorem Try.m38_eq (i : En.Dop.Ins) : Try.m38 i =
  if (decide ((1 : Int) ≤ i.kind)) = true then
   if (decide (i.kind ≤ (6 : Int))) = true then
    some ((i.dst, ()), ())
   else
    if (decide (i.kind = (8 : Int))) = true then
     some ((i.dst, ()), ())
    else
     if (decide (i.kind = (9 : Int))) = true then
      some ((i.dst, ()), ())
     else
      some (((-1 : Int), ()), ())
  else
   if (decide (i.kind = (8 : Int))) = true then
    some ((i.dst, ()), ())
   else
    if (decide (i.kind = (9 : Int))) = true then
     some ((i.dst, ()), ())
    else
     some (((-1 : Int), ()), ()) := by kernel_rfl

def Try.m23.p : Pln := ⟨[], 0, ⟨[.fd (.int .i64)], []⟩, ⟨[.fd .bool], []⟩, true, [], []⟩
noncomputable def Try.m23.E : Env En.Dop.D7 := envOf Try.prog 23 Try.tb [] Try.m23.p
theorem Try.m23.ok : plnOk En.Dop.D7 Try.prog 23 Try.m23.p = true := by kernel_rfl
noncomputable def Try.m23.c : Ctr En.Dop.D7 := ⟨23, Try.m23.p.bn, Try.m23.p.sp, Try.m23.p.rs, Try.m23.p.flat, .opt (Try.m23.E.run 3000 Try.m23.p.sp)⟩
theorem Try.m23.holds : Try.m23.c.Holds Try.prog := fun_ctr 3000 Try.tbOk hct_nil Try.m23.ok
noncomputable def Try.m23 (n : Int) : Option (Spec.D En.Dop.D7 ⟨[.fd .bool], []⟩) := Try.m23.E.run 3000 Try.m23.p.sp ((n, ()), ())
theorem Try.m23_eq (n : Int) : Try.m23 n =
  if (decide ((-2147483648 : Int) ≤ n)) = true then
   some ((decide (n ≤ (2147483647 : Int)), ()), ())
  else
   some ((false, ()), ()) := by kernel_rfl

def Try.m21.p : Pln := ⟨[(6, ⟨[[0, 0, 0, 0, 0, 1, 0, 1, 1, 1, 1], [0, 1, 0, 0, 0, 1, 0, 1, 1, 1, 1], [0, 1, 0, 0, 1, 0, 1, 1, 1, 1], [2, 0, 0, 1, 0, 1, 1, 1, 1], [1, 0], [0, 1, 1, 1, 1, 1]], [2, 3, 5, 6, 7], 3, ⟨[.al 0 0, .al 1 0, .al 2 0, .own 0 3, .fd (.int .i64)], [⟨0, 46, [.st 3], false⟩, ⟨1, 30, [.st 4], false⟩, ⟨2, 46, [.st 3], false⟩]⟩⟩), (16, ⟨[[0, 0, 1, 1, 1, 1, 1, 1], [0, 1, 1, 1, 1, 1, 1, 1]], [2, 3, 5], 3, ⟨[.al 0 0, .al 1 0, .al 2 0], [⟨0, 46, [.st 3], false⟩, ⟨1, 30, [.st 4], false⟩, ⟨2, 46, [.st 3], false⟩]⟩⟩), (19, ⟨[[0, 0, 0, 1, 1, 1, 1, 1, 1, 1, 1], [0, 1, 0, 1, 1, 1, 1, 1, 1, 1, 1], [0, 1, 1, 1, 1, 1, 1, 1, 1, 1]], [2, 3, 5, 8], 3, ⟨[.al 0 0, .al 1 0, .al 2 0, .fd (.int .i64)], [⟨0, 46, [.st 3], false⟩, ⟨1, 30, [.st 4], false⟩, ⟨2, 46, [.st 3], false⟩]⟩⟩), (21, ⟨[[0, 0, 0, 1, 1, 1, 1, 1, 1, 1, 1, 1], [0, 1, 0, 1, 1, 1, 1, 1, 1, 1, 1, 1], [0, 1, 1, 1, 1, 1, 1, 1, 1, 1, 1]], [2, 3, 5, 8], 3, ⟨[.al 0 0, .al 1 0, .al 2 0, .fd (.int .i64)], [⟨0, 46, [.st 3], false⟩, ⟨1, 30, [.st 4], false⟩, ⟨2, 46, [.st 3], false⟩]⟩⟩), (23, ⟨[[0, 0, 0, 1, 1, 1, 1, 1, 1, 1, 1, 1, 1], [0, 1, 0, 1, 1, 1, 1, 1, 1, 1, 1, 1, 1], [0, 1, 1, 1, 1, 1, 1, 1, 1, 1, 1, 1]], [2, 3, 5, 8], 3, ⟨[.al 0 0, .al 1 0, .al 2 0, .fd (.int .i64)], [⟨0, 46, [.st 3], false⟩, ⟨1, 30, [.st 4], false⟩, ⟨2, 46, [.st 3], false⟩]⟩⟩), (27, ⟨[[0, 0, 0, 1, 1, 1, 1, 1, 1, 1, 1, 1, 1, 1, 1], [0, 1, 0, 1, 1, 1, 1, 1, 1, 1, 1, 1, 1, 1, 1], [0, 1, 1, 1, 1, 1, 1, 1, 1, 1, 1, 1, 1, 1]], [2, 3, 5, 8], 3, ⟨[.al 0 0, .al 1 0, .al 2 0, .fd (.int .i64)], [⟨0, 46, [.st 3], false⟩, ⟨1, 30, [.st 4], false⟩, ⟨2, 46, [.st 3], false⟩]⟩⟩), (32, ⟨[[0, 0, 0, 0, 0, 1, 1, 0, 1, 0, 1, 1, 1, 1, 1, 1, 1, 1, 1, 1, 1, 1, 1], [0, 1, 0, 0, 0, 1, 1, 0, 1, 0, 1, 1, 1, 1, 1, 1, 1, 1, 1, 1, 1, 1, 1], [0, 1, 0, 0, 1, 1, 0, 1, 0, 1, 1, 1, 1, 1, 1, 1, 1, 1, 1, 1, 1, 1], [2, 0, 0, 1, 1, 0, 1, 0, 1, 1, 1, 1, 1, 1, 1, 1, 1, 1, 1, 1, 1], [1, 2], [0, 1, 1, 1, 1, 1, 1, 1, 1, 1, 1, 1, 1, 1, 1]], [2, 3, 5, 8, 9], 3, ⟨[.al 0 0, .al 1 0, .al 2 0, .fd (.int .i64), .fd (.int .i64)], [⟨0, 46, [.st 3], false⟩, ⟨1, 30, [.st 4], false⟩, ⟨2, 46, [.st 3], false⟩]⟩⟩), (35, ⟨[[0, 0, 0, 1, 1, 1, 1, 1, 1, 1, 1, 1, 1, 1, 1, 1, 1], [0, 1, 0, 1, 1, 1, 1, 1, 1, 1, 1, 1, 1, 1, 1, 1, 1], [0, 1, 1, 1, 1, 1, 1, 1, 1, 1, 1, 1, 1, 1, 1, 1]], [2, 3, 5, 8], 3, ⟨[.al 0 0, .al 1 0, .al 2 0, .fd (.int .i64)], [⟨0, 46, [.st 3], false⟩, ⟨1, 30, [.st 4], false⟩, ⟨2, 46, [.st 3], false⟩]⟩⟩), (39, ⟨[[0, 0, 0, 1, 1, 1, 1, 1, 1, 1, 1, 1, 1, 1, 1, 1, 1, 1], [0, 1, 0, 1, 1, 1, 1, 1, 1, 1, 1, 1, 1, 1, 1, 1, 1, 1], [0, 1, 1, 1, 1, 1, 1, 1, 1, 1, 1, 1, 1, 1, 1, 1, 1]], [2, 3, 5, 8], 3, ⟨[.al 0 0, .al 1 0, .al 2 0, .fd (.int .i64)], [⟨0, 46, [.st 3], false⟩, ⟨1, 30, [.st 4], false⟩, ⟨2, 46, [.st 3], false⟩]⟩⟩), (43, ⟨[[0, 0, 1, 1, 1, 1, 1, 1, 1, 1, 1, 1, 1, 1, 1, 1, 1, 1], [0, 1, 1, 1, 1, 1, 1, 1, 1, 1, 1, 1, 1, 1, 1, 1, 1, 1]], [2, 5], 2, ⟨[.al 0 0, .al 1 0], [⟨0, 46, [.st 3], false⟩, ⟨1, 46, [.st 3], false⟩]⟩⟩)], 0, ⟨[.st 3, .st 4], []⟩, ⟨[.fd .bool], []⟩, true, [(8, ⟨[(0, true), (1, true), (2, false), (3, false), (4, true), (5, true), (6, true), (7, true), (8, false), (9, false), (10, true), (11, false), (12, true), (13, true)], [], [0, 0, 3, 7, 15, 31, 63, 63, 255, 511, 63, 1087, 4095, 8191], false⟩)], []⟩
noncomputable def Try.m21.E : Env En.Dop.D7 := envOf Try.prog 21 Try.tb [Try.m37.c, Try.m38.c, Try.m23.c] Try.m21.p
theorem Try.m21.ok : plnOk En.Dop.D7 Try.prog 21 Try.m21.p = true := by kernel_rfl
noncomputable def Try.m21.c : Ctr En.Dop.D7 := ⟨21, Try.m21.p.bn, Try.m21.p.sp, Try.m21.p.rs, Try.m21.p.flat, .opt (Try.m21.E.run 3000 Try.m21.p.sp)⟩
theorem Try.m21.holds : Try.m21.c.Holds Try.prog := fun_ctr 3000 Try.tbOk (hct_cons Try.m37.holds (hct_cons Try.m38.holds (hct_cons Try.m23.holds hct_nil))) Try.m21.ok
noncomputable def Try.m21 (o : En.Dop.Ins) (t1 : En.Dop.Fnc) : Option (Spec.D En.Dop.D7 ⟨[.fd .bool], []⟩) := Try.m21.E.run 3000 Try.m21.p.sp ((o, t1, ()), ())
noncomputable def Try.m21_6 (t6 : List (Int)) (t7 : Int) (b0 : En.Dop.Ins) (b1 : En.Dop.Fnc) (b2 : En.Dop.Ins) : Option (Spec.D En.Dop.D7 ⟨[.fd .bool], []⟩) := Try.m21.E.cut 3000 6 (((), (), (), t6, t7, ()), ((b0, ()), (b1, ()), (b2, ()), ()))
noncomputable def Try.m21_16 (b0 : En.Dop.Ins) (b1 : En.Dop.Fnc) (b2 : En.Dop.Ins) : Option (Spec.D En.Dop.D7 ⟨[.fd .bool], []⟩) := Try.m21.E.cut 3000 16 (((), (), (), ()), ((b0, ()), (b1, ()), (b2, ()), ()))
noncomputable def Try.m21_19 (t8 : Int) (b0 : En.Dop.Ins) (b1 : En.Dop.Fnc) (b2 : En.Dop.Ins) : Option (Spec.D En.Dop.D7 ⟨[.fd .bool], []⟩) := Try.m21.E.cut 3000 19 (((), (), (), t8, ()), ((b0, ()), (b1, ()), (b2, ()), ()))
noncomputable def Try.m21_21 (t8 : Int) (b0 : En.Dop.Ins) (b1 : En.Dop.Fnc) (b2 : En.Dop.Ins) : Option (Spec.D En.Dop.D7 ⟨[.fd .bool], []⟩) := Try.m21.E.cut 3000 21 (((), (), (), t8, ()), ((b0, ()), (b1, ()), (b2, ()), ()))
noncomputable def Try.m21_23 (t8 : Int) (b0 : En.Dop.Ins) (b1 : En.Dop.Fnc) (b2 : En.Dop.Ins) : Option (Spec.D En.Dop.D7 ⟨[.fd .bool], []⟩) := Try.m21.E.cut 3000 23 (((), (), (), t8, ()), ((b0, ()), (b1, ()), (b2, ()), ()))
noncomputable def Try.m21_27 (t8 : Int) (b0 : En.Dop.Ins) (b1 : En.Dop.Fnc) (b2 : En.Dop.Ins) : Option (Spec.D En.Dop.D7 ⟨[.fd .bool], []⟩) := Try.m21.E.cut 3000 27 (((), (), (), t8, ()), ((b0, ()), (b1, ()), (b2, ()), ()))
noncomputable def Try.m21_32 (t8 : Int) (t9 : Int) (b0 : En.Dop.Ins) (b1 : En.Dop.Fnc) (b2 : En.Dop.Ins) : Option (Spec.D En.Dop.D7 ⟨[.fd .bool], []⟩) := Try.m21.E.cut 3000 32 (((), (), (), t8, t9, ()), ((b0, ()), (b1, ()), (b2, ()), ()))
noncomputable def Try.m21_35 (t8 : Int) (b0 : En.Dop.Ins) (b1 : En.Dop.Fnc) (b2 : En.Dop.Ins) : Option (Spec.D En.Dop.D7 ⟨[.fd .bool], []⟩) := Try.m21.E.cut 3000 35 (((), (), (), t8, ()), ((b0, ()), (b1, ()), (b2, ()), ()))
noncomputable def Try.m21_39 (t8 : Int) (b0 : En.Dop.Ins) (b1 : En.Dop.Fnc) (b2 : En.Dop.Ins) : Option (Spec.D En.Dop.D7 ⟨[.fd .bool], []⟩) := Try.m21.E.cut 3000 39 (((), (), (), t8, ()), ((b0, ()), (b1, ()), (b2, ()), ()))
noncomputable def Try.m21_43 (b0 : En.Dop.Ins) (b1 : En.Dop.Ins) : Option (Spec.D En.Dop.D7 ⟨[.fd .bool], []⟩) := Try.m21.E.cut 3000 43 (((), (), ()), ((b0, ()), (b1, ()), ()))
theorem Try.m21_eq (o : En.Dop.Ins) (t1 : En.Dop.Fnc) : Try.m21 o t1 =
  if (decide (o.kind < (1 : Int))) = true then
   some ((false, ()), ())
  else
   if (decide ((13 : Int) < o.kind)) = true then
    some ((false, ()), ())
   else
    (Try.m37 (o)).bind fun y4 =>
     Try.m21_6 (y4.fst.fst) ((0 : Int)) (o) (t1) (Dop.Ins.mk o.kind (0 : Int) (-1 : Int) (0 : Int) (0 : Int) (0 : Int) (@List.nil UInt8) (0 : Int) (0 : Int) (0 : Int) (0 : Int) (0 : Int) (0 : Int) (0 : Int) (-1 : Int)) := by kernel_rfl
theorem Try.m21_6_eq (t6 : List (Int)) (t7 : Int) (b0 : En.Dop.Ins) (b1 : En.Dop.Fnc) (b2 : En.Dop.Ins) : Try.m21_6 t6 t7 b0 b1 b2 =
  if (decide (t7 < I t6.length)) = true then
   if (decide ((0 : Int) ≤ t7 ∧ t7 < I t6.length)) = true then
   if (decide (t7.toNat < t6.length)) = true then
   if (decide (t6.getD t7.toNat (0 : Int) < (0 : Int))) = true then
    some ((false, ()), ())
   else
    if (decide ((0 : Int) ≤ t7 ∧ t7 < I t6.length)) = true then
    if (decide (t7.toNat < t6.length)) = true then
    if (decide (b1.regs ≤ t6.getD t7.toNat (0 : Int))) = true then
     some ((false, ()), ())
    else
     if (inR (t7 + (1 : Int))) = true then
     Try.m21_6 (t6) (t7 + (1 : Int)) (b0) (b1) (b2)
     else none
    else none
    else none
   else none
   else none
  else
   (Try.m38 (b0)).bind fun y3 =>
    if (!decide (y3.fst.fst = (-1 : Int))) = true then
     if (decide (b0.dst < (0 : Int))) = true then
      if (decide (b0.kind = (8 : Int))) = true then
       if (!decide (b0.dst = (-1 : Int))) = true then
        some ((false, ()), ())
       else
        if (decide (b1.regs ≤ b0.dst)) = true then
         some ((false, ()), ())
        else
         Try.m21_16 (b0) (b1) (Dop.Ins.mk b2.kind b2.op b0.dst b2.a b2.b b2.n b2.text b2.args0 b2.args1 b2.args2 b2.args3 b2.args4 b2.args5 b2.to_ b2.else_)
      else
       some ((false, ()), ())
     else
      if (decide (b1.regs ≤ b0.dst)) = true then
       some ((false, ()), ())
      else
       Try.m21_16 (b0) (b1) (Dop.Ins.mk b2.kind b2.op b0.dst b2.a b2.b b2.n b2.text b2.args0 b2.args1 b2.args2 b2.args3 b2.args4 b2.args5 b2.to_ b2.else_)
    else
     if (decide (b0.kind = (8 : Int))) = true then
      if (decide (b0.dst < (0 : Int))) = true then
       if (decide (b0.kind = (8 : Int))) = true then
        if (!decide (b0.dst = (-1 : Int))) = true then
         some ((false, ()), ())
        else
         if (decide (b1.regs ≤ b0.dst)) = true then
          some ((false, ()), ())
         else
          Try.m21_16 (b0) (b1) (Dop.Ins.mk b2.kind b2.op b0.dst b2.a b2.b b2.n b2.text b2.args0 b2.args1 b2.args2 b2.args3 b2.args4 b2.args5 b2.to_ b2.else_)
       else
        some ((false, ()), ())
      else
       if (decide (b1.regs ≤ b0.dst)) = true then
        some ((false, ()), ())
       else
        Try.m21_16 (b0) (b1) (Dop.Ins.mk b2.kind b2.op b0.dst b2.a b2.b b2.n b2.text b2.args0 b2.args1 b2.args2 b2.args3 b2.args4 b2.args5 b2.to_ b2.else_)
     else
      if (decide (b0.kind ≤ (9 : Int))) = true then
       if (!decide (b0.kind = (7 : Int))) = true then
        some ((false, ()), ())
       else
        Try.m21_16 (b0) (b1) (b2)
      else
       Try.m21_16 (b0) (b1) (b2) := Env.cut_eq' (E := Try.m21.E) (f0 := 3000) (c := 6) (q := ⟨[[0, 0, 0, 0, 0, 1, 0, 1, 1, 1, 1], [0, 1, 0, 0, 0, 1, 0, 1, 1, 1, 1], [0, 1, 0, 0, 1, 0, 1, 1, 1, 1], [2, 0, 0, 1, 0, 1, 1, 1, 1], [1, 0], [0, 1, 1, 1, 1, 1]], [2, 3, 5, 6, 7], 3, ⟨[.al 0 0, .al 1 0, .al 2 0, .own 0 3, .fd (.int .i64)], [⟨0, 46, [.st 3], false⟩, ⟨1, 30, [.st 4], false⟩, ⟨2, 46, [.st 3], false⟩]⟩⟩) (by kernel_rfl) (((), (), (), t6, t7, ()), ((b0, ()), (b1, ()), (b2, ()), ())) (by kernel_rfl) (by kernel_rfl)
theorem Try.m21_16_eq (b0 : En.Dop.Ins) (b1 : En.Dop.Fnc) (b2 : En.Dop.Ins) : Try.m21_16 b0 b1 b2 =
  if (decide (b0.kind = (2 : Int))) = true then
   Try.m21_19 (b0.kind) (b0) (b1) (Dop.Ins.mk b2.kind b2.op b2.dst b0.a b2.b b2.n b2.text b2.args0 b2.args1 b2.args2 b2.args3 b2.args4 b2.args5 b2.to_ b2.else_)
  else
   if (decide (b0.kind = (3 : Int))) = true then
    Try.m21_19 (b0.kind) (b0) (b1) (Dop.Ins.mk b2.kind b2.op b2.dst b0.a b2.b b2.n b2.text b2.args0 b2.args1 b2.args2 b2.args3 b2.args4 b2.args5 b2.to_ b2.else_)
   else
    if (decide (b0.kind = (4 : Int))) = true then
     Try.m21_19 (b0.kind) (b0) (b1) (Dop.Ins.mk b2.kind b2.op b2.dst b0.a b2.b b2.n b2.text b2.args0 b2.args1 b2.args2 b2.args3 b2.args4 b2.args5 b2.to_ b2.else_)
    else
     if (decide (b0.kind = (6 : Int))) = true then
      Try.m21_19 (b0.kind) (b0) (b1) (Dop.Ins.mk b2.kind b2.op b2.dst b0.a b2.b b2.n b2.text b2.args0 b2.args1 b2.args2 b2.args3 b2.args4 b2.args5 b2.to_ b2.else_)
     else
      if (decide (b0.kind = (7 : Int))) = true then
       Try.m21_19 (b0.kind) (b0) (b1) (Dop.Ins.mk b2.kind b2.op b2.dst b0.a b2.b b2.n b2.text b2.args0 b2.args1 b2.args2 b2.args3 b2.args4 b2.args5 b2.to_ b2.else_)
      else
       if (decide (b0.kind = (10 : Int))) = true then
        Try.m21_19 (b0.kind) (b0) (b1) (Dop.Ins.mk b2.kind b2.op b2.dst b0.a b2.b b2.n b2.text b2.args0 b2.args1 b2.args2 b2.args3 b2.args4 b2.args5 b2.to_ b2.else_)
       else
        if (decide (b0.kind = (12 : Int))) = true then
         Try.m21_19 (b0.kind) (b0) (b1) (Dop.Ins.mk b2.kind b2.op b2.dst b0.a b2.b b2.n b2.text b2.args0 b2.args1 b2.args2 b2.args3 b2.args4 b2.args5 b2.to_ b2.else_)
        else
         if (decide (b0.kind = (13 : Int))) = true then
          Try.m21_19 (b0.kind) (b0) (b1) (Dop.Ins.mk b2.kind b2.op b2.dst b0.a b2.b b2.n b2.text b2.args0 b2.args1 b2.args2 b2.args3 b2.args4 b2.args5 b2.to_ b2.else_)
         else
          Try.m21_19 (b0.kind) (b0) (b1) (b2) := Env.cut_eq' (E := Try.m21.E) (f0 := 3000) (c := 16) (q := ⟨[[0, 0, 1, 1, 1, 1, 1, 1], [0, 1, 1, 1, 1, 1, 1, 1]], [2, 3, 5], 3, ⟨[.al 0 0, .al 1 0, .al 2 0], [⟨0, 46, [.st 3], false⟩, ⟨1, 30, [.st 4], false⟩, ⟨2, 46, [.st 3], false⟩]⟩⟩) (by kernel_rfl) (((), (), (), ()), ((b0, ()), (b1, ()), (b2, ()), ())) (by kernel_rfl) (by kernel_rfl)
theorem Try.m21_19_eq (t8 : Int) (b0 : En.Dop.Ins) (b1 : En.Dop.Fnc) (b2 : En.Dop.Ins) : Try.m21_19 t8 b0 b1 b2 =
  if (decide (t8 = (3 : Int))) = true then
   Try.m21_21 (t8) (b0) (b1) (Dop.Ins.mk b2.kind b2.op b2.dst b2.a b0.b b2.n b2.text b2.args0 b2.args1 b2.args2 b2.args3 b2.args4 b2.args5 b2.to_ b2.else_)
  else
   if (decide (t8 = (7 : Int))) = true then
    Try.m21_21 (t8) (b0) (b1) (Dop.Ins.mk b2.kind b2.op b2.dst b2.a b0.b b2.n b2.text b2.args0 b2.args1 b2.args2 b2.args3 b2.args4 b2.args5 b2.to_ b2.else_)
   else
    Try.m21_21 (t8) (b0) (b1) (b2) := Env.cut_eq' (E := Try.m21.E) (f0 := 3000) (c := 19) (q := ⟨[[0, 0, 0, 1, 1, 1, 1, 1, 1, 1, 1], [0, 1, 0, 1, 1, 1, 1, 1, 1, 1, 1], [0, 1, 1, 1, 1, 1, 1, 1, 1, 1]], [2, 3, 5, 8], 3, ⟨[.al 0 0, .al 1 0, .al 2 0, .fd (.int .i64)], [⟨0, 46, [.st 3], false⟩, ⟨1, 30, [.st 4], false⟩, ⟨2, 46, [.st 3], false⟩]⟩⟩) (by kernel_rfl) (((), (), (), t8, ()), ((b0, ()), (b1, ()), (b2, ()), ())) (by kernel_rfl) (by kernel_rfl)
theorem Try.m21_21_eq (t8 : Int) (b0 : En.Dop.Ins) (b1 : En.Dop.Fnc) (b2 : En.Dop.Ins) : Try.m21_21 t8 b0 b1 b2 =
  if (decide (t8 = (1 : Int))) = true then
   Try.m21_23 (t8) (b0) (b1) (Dop.Ins.mk b2.kind b2.op b2.dst b2.a b2.b b0.n b2.text b2.args0 b2.args1 b2.args2 b2.args3 b2.args4 b2.args5 b2.to_ b2.else_)
  else
   if (decide (t8 = (5 : Int))) = true then
    Try.m21_23 (t8) (b0) (b1) (Dop.Ins.mk b2.kind b2.op b2.dst b2.a b2.b b0.n b2.text b2.args0 b2.args1 b2.args2 b2.args3 b2.args4 b2.args5 b2.to_ b2.else_)
   else
    if (decide (t8 = (8 : Int))) = true then
     Try.m21_23 (t8) (b0) (b1) (Dop.Ins.mk b2.kind b2.op b2.dst b2.a b2.b b0.n b2.text b2.args0 b2.args1 b2.args2 b2.args3 b2.args4 b2.args5 b2.to_ b2.else_)
    else
     Try.m21_23 (t8) (b0) (b1) (b2) := Env.cut_eq' (E := Try.m21.E) (f0 := 3000) (c := 21) (q := ⟨[[0, 0, 0, 1, 1, 1, 1, 1, 1, 1, 1, 1], [0, 1, 0, 1, 1, 1, 1, 1, 1, 1, 1, 1], [0, 1, 1, 1, 1, 1, 1, 1, 1, 1, 1]], [2, 3, 5, 8], 3, ⟨[.al 0 0, .al 1 0, .al 2 0, .fd (.int .i64)], [⟨0, 46, [.st 3], false⟩, ⟨1, 30, [.st 4], false⟩, ⟨2, 46, [.st 3], false⟩]⟩⟩) (by kernel_rfl) (((), (), (), t8, ()), ((b0, ()), (b1, ()), (b2, ()), ())) (by kernel_rfl) (by kernel_rfl)
theorem Try.m21_23_eq (t8 : Int) (b0 : En.Dop.Ins) (b1 : En.Dop.Fnc) (b2 : En.Dop.Ins) : Try.m21_23 t8 b0 b1 b2 =
  if (decide (t8 = (1 : Int))) = true then
   (Try.m23 (b0.n)).bind fun y3 =>
    if (!y3.fst.fst) = true then
     some ((false, ()), ())
    else
     if (decide (t8 = (5 : Int))) = true then
      if (decide (b0.n < (0 : Int))) = true then
       some ((false, ()), ())
      else
       if (decide (b1.frame < b0.n)) = true then
        some ((false, ()), ())
       else
        if (decide (t8 = (8 : Int))) = true then
         if (decide (b0.n < (0 : Int))) = true then
          some ((false, ()), ())
         else
          if (decide ((6 : Int) < b0.n)) = true then
           some ((false, ()), ())
          else
           if (decide (I b0.text.length = (0 : Int))) = true then
            some ((false, ()), ())
           else
            if (decide (t8 = (2 : Int))) = true then
             Try.m21_27 (t8) (b0) (b1) (Dop.Ins.mk b2.kind b0.op b2.dst b2.a b2.b b2.n b2.text b2.args0 b2.args1 b2.args2 b2.args3 b2.args4 b2.args5 b2.to_ b2.else_)
            else
             if (decide (t8 = (3 : Int))) = true then
              Try.m21_27 (t8) (b0) (b1) (Dop.Ins.mk b2.kind b0.op b2.dst b2.a b2.b b2.n b2.text b2.args0 b2.args1 b2.args2 b2.args3 b2.args4 b2.args5 b2.to_ b2.else_)
             else
              Try.m21_27 (t8) (b0) (b1) (b2)
        else
         if (decide (t8 = (2 : Int))) = true then
          Try.m21_27 (t8) (b0) (b1) (Dop.Ins.mk b2.kind b0.op b2.dst b2.a b2.b b2.n b2.text b2.args0 b2.args1 b2.args2 b2.args3 b2.args4 b2.args5 b2.to_ b2.else_)
         else
          if (decide (t8 = (3 : Int))) = true then
           Try.m21_27 (t8) (b0) (b1) (Dop.Ins.mk b2.kind b0.op b2.dst b2.a b2.b b2.n b2.text b2.args0 b2.args1 b2.args2 b2.args3 b2.args4 b2.args5 b2.to_ b2.else_)
          else
           Try.m21_27 (t8) (b0) (b1) (b2)
     else
      if (decide (t8 = (8 : Int))) = true then
       if (decide (b0.n < (0 : Int))) = true then
        some ((false, ()), ())
       else
        if (decide ((6 : Int) < b0.n)) = true then
         some ((false, ()), ())
        else
         if (decide (I b0.text.length = (0 : Int))) = true then
          some ((false, ()), ())
         else
          if (decide (t8 = (2 : Int))) = true then
           Try.m21_27 (t8) (b0) (b1) (Dop.Ins.mk b2.kind b0.op b2.dst b2.a b2.b b2.n b2.text b2.args0 b2.args1 b2.args2 b2.args3 b2.args4 b2.args5 b2.to_ b2.else_)
          else
           if (decide (t8 = (3 : Int))) = true then
            Try.m21_27 (t8) (b0) (b1) (Dop.Ins.mk b2.kind b0.op b2.dst b2.a b2.b b2.n b2.text b2.args0 b2.args1 b2.args2 b2.args3 b2.args4 b2.args5 b2.to_ b2.else_)
           else
            Try.m21_27 (t8) (b0) (b1) (b2)
      else
       if (decide (t8 = (2 : Int))) = true then
        Try.m21_27 (t8) (b0) (b1) (Dop.Ins.mk b2.kind b0.op b2.dst b2.a b2.b b2.n b2.text b2.args0 b2.args1 b2.args2 b2.args3 b2.args4 b2.args5 b2.to_ b2.else_)
       else
        if (decide (t8 = (3 : Int))) = true then
         Try.m21_27 (t8) (b0) (b1) (Dop.Ins.mk b2.kind b0.op b2.dst b2.a b2.b b2.n b2.text b2.args0 b2.args1 b2.args2 b2.args3 b2.args4 b2.args5 b2.to_ b2.else_)
        else
         Try.m21_27 (t8) (b0) (b1) (b2)
  else
   if (decide (t8 = (5 : Int))) = true then
    if (decide (b0.n < (0 : Int))) = true then
     some ((false, ()), ())
    else
     if (decide (b1.frame < b0.n)) = true then
      some ((false, ()), ())
     else
      if (decide (t8 = (8 : Int))) = true then
       if (decide (b0.n < (0 : Int))) = true then
        some ((false, ()), ())
       else
        if (decide ((6 : Int) < b0.n)) = true then
         some ((false, ()), ())
        else
         if (decide (I b0.text.length = (0 : Int))) = true then
          some ((false, ()), ())
         else
          if (decide (t8 = (2 : Int))) = true then
           Try.m21_27 (t8) (b0) (b1) (Dop.Ins.mk b2.kind b0.op b2.dst b2.a b2.b b2.n b2.text b2.args0 b2.args1 b2.args2 b2.args3 b2.args4 b2.args5 b2.to_ b2.else_)
          else
           if (decide (t8 = (3 : Int))) = true then
            Try.m21_27 (t8) (b0) (b1) (Dop.Ins.mk b2.kind b0.op b2.dst b2.a b2.b b2.n b2.text b2.args0 b2.args1 b2.args2 b2.args3 b2.args4 b2.args5 b2.to_ b2.else_)
           else
            Try.m21_27 (t8) (b0) (b1) (b2)
      else
       if (decide (t8 = (2 : Int))) = true then
        Try.m21_27 (t8) (b0) (b1) (Dop.Ins.mk b2.kind b0.op b2.dst b2.a b2.b b2.n b2.text b2.args0 b2.args1 b2.args2 b2.args3 b2.args4 b2.args5 b2.to_ b2.else_)
       else
        if (decide (t8 = (3 : Int))) = true then
         Try.m21_27 (t8) (b0) (b1) (Dop.Ins.mk b2.kind b0.op b2.dst b2.a b2.b b2.n b2.text b2.args0 b2.args1 b2.args2 b2.args3 b2.args4 b2.args5 b2.to_ b2.else_)
        else
         Try.m21_27 (t8) (b0) (b1) (b2)
   else
    if (decide (t8 = (8 : Int))) = true then
     if (decide (b0.n < (0 : Int))) = true then
      some ((false, ()), ())
     else
      if (decide ((6 : Int) < b0.n)) = true then
       some ((false, ()), ())
      else
       if (decide (I b0.text.length = (0 : Int))) = true then
        some ((false, ()), ())
       else
        if (decide (t8 = (2 : Int))) = true then
         Try.m21_27 (t8) (b0) (b1) (Dop.Ins.mk b2.kind b0.op b2.dst b2.a b2.b b2.n b2.text b2.args0 b2.args1 b2.args2 b2.args3 b2.args4 b2.args5 b2.to_ b2.else_)
        else
         if (decide (t8 = (3 : Int))) = true then
          Try.m21_27 (t8) (b0) (b1) (Dop.Ins.mk b2.kind b0.op b2.dst b2.a b2.b b2.n b2.text b2.args0 b2.args1 b2.args2 b2.args3 b2.args4 b2.args5 b2.to_ b2.else_)
         else
          Try.m21_27 (t8) (b0) (b1) (b2)
    else
     if (decide (t8 = (2 : Int))) = true then
      Try.m21_27 (t8) (b0) (b1) (Dop.Ins.mk b2.kind b0.op b2.dst b2.a b2.b b2.n b2.text b2.args0 b2.args1 b2.args2 b2.args3 b2.args4 b2.args5 b2.to_ b2.else_)
     else
      if (decide (t8 = (3 : Int))) = true then
       Try.m21_27 (t8) (b0) (b1) (Dop.Ins.mk b2.kind b0.op b2.dst b2.a b2.b b2.n b2.text b2.args0 b2.args1 b2.args2 b2.args3 b2.args4 b2.args5 b2.to_ b2.else_)
      else
       Try.m21_27 (t8) (b0) (b1) (b2) := Env.cut_eq' (E := Try.m21.E) (f0 := 3000) (c := 23) (q := ⟨[[0, 0, 0, 1, 1, 1, 1, 1, 1, 1, 1, 1, 1], [0, 1, 0, 1, 1, 1, 1, 1, 1, 1, 1, 1, 1], [0, 1, 1, 1, 1, 1, 1, 1, 1, 1, 1, 1]], [2, 3, 5, 8], 3, ⟨[.al 0 0, .al 1 0, .al 2 0, .fd (.int .i64)], [⟨0, 46, [.st 3], false⟩, ⟨1, 30, [.st 4], false⟩, ⟨2, 46, [.st 3], false⟩]⟩⟩) (by kernel_rfl) (((), (), (), t8, ()), ((b0, ()), (b1, ()), (b2, ()), ())) (by kernel_rfl) (by kernel_rfl)
theorem Try.m21_27_eq (t8 : Int) (b0 : En.Dop.Ins) (b1 : En.Dop.Fnc) (b2 : En.Dop.Ins) : Try.m21_27 t8 b0 b1 b2 =
  if (decide (t8 = (2 : Int))) = true then
   if (decide (b0.op < (20 : Int))) = true then
    some ((false, ()), ())
   else
    if (decide ((23 : Int) < b0.op)) = true then
     some ((false, ()), ())
    else
     if (decide (t8 = (3 : Int))) = true then
      if (decide (b0.op < (1 : Int))) = true then
       some ((false, ()), ())
      else
       if (decide ((19 : Int) < b0.op)) = true then
        some ((false, ()), ())
       else
        if (decide (t8 = (8 : Int))) = true then
         Try.m21_32 (t8) ((0 : Int)) (b0) (b1) (Dop.Ins.mk b2.kind b2.op b2.dst b2.a b2.b b2.n b0.text b2.args0 b2.args1 b2.args2 b2.args3 b2.args4 b2.args5 b2.to_ b2.else_)
        else
         Try.m21_35 (t8) (b0) (b1) (b2)
     else
      if (decide (t8 = (8 : Int))) = true then
       Try.m21_32 (t8) ((0 : Int)) (b0) (b1) (Dop.Ins.mk b2.kind b2.op b2.dst b2.a b2.b b2.n b0.text b2.args0 b2.args1 b2.args2 b2.args3 b2.args4 b2.args5 b2.to_ b2.else_)
      else
       Try.m21_35 (t8) (b0) (b1) (b2)
  else
   if (decide (t8 = (3 : Int))) = true then
    if (decide (b0.op < (1 : Int))) = true then
     some ((false, ()), ())
    else
     if (decide ((19 : Int) < b0.op)) = true then
      some ((false, ()), ())
     else
      if (decide (t8 = (8 : Int))) = true then
       Try.m21_32 (t8) ((0 : Int)) (b0) (b1) (Dop.Ins.mk b2.kind b2.op b2.dst b2.a b2.b b2.n b0.text b2.args0 b2.args1 b2.args2 b2.args3 b2.args4 b2.args5 b2.to_ b2.else_)
      else
       Try.m21_35 (t8) (b0) (b1) (b2)
   else
    if (decide (t8 = (8 : Int))) = true then
     Try.m21_32 (t8) ((0 : Int)) (b0) (b1) (Dop.Ins.mk b2.kind b2.op b2.dst b2.a b2.b b2.n b0.text b2.args0 b2.args1 b2.args2 b2.args3 b2.args4 b2.args5 b2.to_ b2.else_)
    else
     Try.m21_35 (t8) (b0) (b1) (b2) := Env.cut_eq' (E := Try.m21.E) (f0 := 3000) (c := 27) (q := ⟨[[0, 0, 0, 1, 1, 1, 1, 1, 1, 1, 1, 1, 1, 1, 1], [0, 1, 0, 1, 1, 1, 1, 1, 1, 1, 1, 1, 1, 1, 1], [0, 1, 1, 1, 1, 1, 1, 1, 1, 1, 1, 1, 1, 1]], [2, 3, 5, 8], 3, ⟨[.al 0 0, .al 1 0, .al 2 0, .fd (.int .i64)], [⟨0, 46, [.st 3], false⟩, ⟨1, 30, [.st 4], false⟩, ⟨2, 46, [.st 3], false⟩]⟩⟩) (by kernel_rfl) (((), (), (), t8, ()), ((b0, ()), (b1, ()), (b2, ()), ())) (by kernel_rfl) (by kernel_rfl)
theorem Try.m21_32_eq (t8 : Int) (t9 : Int) (b0 : En.Dop.Ins) (b1 : En.Dop.Fnc) (b2 : En.Dop.Ins) : Try.m21_32 t8 t9 b0 b1 b2 =
  if (decide (t9 < b0.n)) = true then
   if (decide ((0 : Int) ≤ t9 ∧ t9 < I (6 : Nat))) = true then
   if (decide (t9.toNat < (b0.args0 :: b0.args1 :: b0.args2 :: b0.args3 :: b0.args4 :: b0.args5 :: @List.nil Int).length)) = true then
   if (decide ((0 : Int) ≤ t9 ∧ t9 < I (6 : Nat))) = true then
   if (decide (t9.toNat < (b2.args0 :: b2.args1 :: b2.args2 :: b2.args3 :: b2.args4 :: b2.args5 :: @List.nil Int).length)) = true then
   if (inR (t9 + (1 : Int))) = true then
   Try.m21_32 (t8) (t9 + (1 : Int)) (b0) (b1) (Dop.Ins.mk b2.kind b2.op b2.dst b2.a b2.b b2.n b2.text (if t9.toNat = (0 : Nat) then (b0.args0 :: b0.args1 :: b0.args2 :: b0.args3 :: b0.args4 :: b0.args5 :: @List.nil Int).getD t9.toNat (0 : Int) else b2.args0) (if t9.toNat = (0 : Nat) + (1 : Nat) then (b0.args0 :: b0.args1 :: b0.args2 :: b0.args3 :: b0.args4 :: b0.args5 :: @List.nil Int).getD t9.toNat (0 : Int) else b2.args1) (if t9.toNat = (0 : Nat) + (1 : Nat) + (1 : Nat) then (b0.args0 :: b0.args1 :: b0.args2 :: b0.args3 :: b0.args4 :: b0.args5 :: @List.nil Int).getD t9.toNat (0 : Int) else b2.args2) (if t9.toNat = (0 : Nat) + (1 : Nat) + (1 : Nat) + (1 : Nat) then (b0.args0 :: b0.args1 :: b0.args2 :: b0.args3 :: b0.args4 :: b0.args5 :: @List.nil Int).getD t9.toNat (0 : Int) else b2.args3) (if t9.toNat = (0 : Nat) + (1 : Nat) + (1 : Nat) + (1 : Nat) + (1 : Nat) then (b0.args0 :: b0.args1 :: b0.args2 :: b0.args3 :: b0.args4 :: b0.args5 :: @List.nil Int).getD t9.toNat (0 : Int) else b2.args4) (if t9.toNat = (0 : Nat) + (1 : Nat) + (1 : Nat) + (1 : Nat) + (1 : Nat) + (1 : Nat) then (b0.args0 :: b0.args1 :: b0.args2 :: b0.args3 :: b0.args4 :: b0.args5 :: @List.nil Int).getD t9.toNat (0 : Int) else b2.args5) b2.to_ b2.else_)
   else none
   else none
   else none
   else none
   else none
  else
   Try.m21_35 (t8) (b0) (b1) (b2) := Env.cut_eq' (E := Try.m21.E) (f0 := 3000) (c := 32) (q := ⟨[[0, 0, 0, 0, 0, 1, 1, 0, 1, 0, 1, 1, 1, 1, 1, 1, 1, 1, 1, 1, 1, 1, 1], [0, 1, 0, 0, 0, 1, 1, 0, 1, 0, 1, 1, 1, 1, 1, 1, 1, 1, 1, 1, 1, 1, 1], [0, 1, 0, 0, 1, 1, 0, 1, 0, 1, 1, 1, 1, 1, 1, 1, 1, 1, 1, 1, 1, 1], [2, 0, 0, 1, 1, 0, 1, 0, 1, 1, 1, 1, 1, 1, 1, 1, 1, 1, 1, 1, 1], [1, 2], [0, 1, 1, 1, 1, 1, 1, 1, 1, 1, 1, 1, 1, 1, 1]], [2, 3, 5, 8, 9], 3, ⟨[.al 0 0, .al 1 0, .al 2 0, .fd (.int .i64), .fd (.int .i64)], [⟨0, 46, [.st 3], false⟩, ⟨1, 30, [.st 4], false⟩, ⟨2, 46, [.st 3], false⟩]⟩⟩) (by kernel_rfl) (((), (), (), t8, t9, ()), ((b0, ()), (b1, ()), (b2, ()), ())) (by kernel_rfl) (by kernel_rfl)
theorem Try.m21_35_eq (t8 : Int) (b0 : En.Dop.Ins) (b1 : En.Dop.Fnc) (b2 : En.Dop.Ins) : Try.m21_35 t8 b0 b1 b2 =
  if (decide (t8 = (11 : Int))) = true then
   if (decide (b0.to_ < (0 : Int))) = true then
    some ((false, ()), ())
   else
    if (decide (I b1.code.length ≤ b0.to_)) = true then
     some ((false, ()), ())
    else
     Try.m21_39 (t8) (b0) (b1) (Dop.Ins.mk b2.kind b2.op b2.dst b2.a b2.b b2.n b2.text b2.args0 b2.args1 b2.args2 b2.args3 b2.args4 b2.args5 b0.to_ b2.else_)
  else
   if (decide (t8 = (12 : Int))) = true then
    if (decide (b0.to_ < (0 : Int))) = true then
     some ((false, ()), ())
    else
     if (decide (I b1.code.length ≤ b0.to_)) = true then
      some ((false, ()), ())
     else
      Try.m21_39 (t8) (b0) (b1) (Dop.Ins.mk b2.kind b2.op b2.dst b2.a b2.b b2.n b2.text b2.args0 b2.args1 b2.args2 b2.args3 b2.args4 b2.args5 b0.to_ b2.else_)
   else
    Try.m21_39 (t8) (b0) (b1) (b2) := Env.cut_eq' (E := Try.m21.E) (f0 := 3000) (c := 35) (q := ⟨[[0, 0, 0, 1, 1, 1, 1, 1, 1, 1, 1, 1, 1, 1, 1, 1, 1], [0, 1, 0, 1, 1, 1, 1, 1, 1, 1, 1, 1, 1, 1, 1, 1, 1], [0, 1, 1, 1, 1, 1, 1, 1, 1, 1, 1, 1, 1, 1, 1, 1]], [2, 3, 5, 8], 3, ⟨[.al 0 0, .al 1 0, .al 2 0, .fd (.int .i64)], [⟨0, 46, [.st 3], false⟩, ⟨1, 30, [.st 4], false⟩, ⟨2, 46, [.st 3], false⟩]⟩⟩) (by kernel_rfl) (((), (), (), t8, ()), ((b0, ()), (b1, ()), (b2, ()), ())) (by kernel_rfl) (by kernel_rfl)
theorem Try.m21_39_eq (t8 : Int) (b0 : En.Dop.Ins) (b1 : En.Dop.Fnc) (b2 : En.Dop.Ins) : Try.m21_39 t8 b0 b1 b2 =
  if (decide (t8 = (12 : Int))) = true then
   if (decide (b0.else_ < (0 : Int))) = true then
    some ((false, ()), ())
   else
    if (decide (I b1.code.length ≤ b0.else_)) = true then
     some ((false, ()), ())
    else
     Try.m21_43 (b0) (Dop.Ins.mk b2.kind b2.op b2.dst b2.a b2.b b2.n b2.text b2.args0 b2.args1 b2.args2 b2.args3 b2.args4 b2.args5 b2.to_ b0.else_)
  else
   Try.m21_43 (b0) (b2) := Env.cut_eq' (E := Try.m21.E) (f0 := 3000) (c := 39) (q := ⟨[[0, 0, 0, 1, 1, 1, 1, 1, 1, 1, 1, 1, 1, 1, 1, 1, 1, 1], [0, 1, 0, 1, 1, 1, 1, 1, 1, 1, 1, 1, 1, 1, 1, 1, 1, 1], [0, 1, 1, 1, 1, 1, 1, 1, 1, 1, 1, 1, 1, 1, 1, 1, 1]], [2, 3, 5, 8], 3, ⟨[.al 0 0, .al 1 0, .al 2 0, .fd (.int .i64)], [⟨0, 46, [.st 3], false⟩, ⟨1, 30, [.st 4], false⟩, ⟨2, 46, [.st 3], false⟩]⟩⟩) (by kernel_rfl) (((), (), (), t8, ()), ((b0, ()), (b1, ()), (b2, ()), ())) (by kernel_rfl) (by kernel_rfl)
theorem Try.m21_43_eq (b0 : En.Dop.Ins) (b1 : En.Dop.Ins) : Try.m21_43 b0 b1 =
  some ((eqSs (List.take (15 : Nat) (List.drop (0 : Nat) (SV.v (Value.int IntKind.i64 b0.kind) :: SV.v (Value.int IntKind.i64 b0.op) :: SV.v (Value.int IntKind.i64 b0.dst) :: SV.v (Value.int IntKind.i64 b0.a) :: SV.v (Value.int IntKind.i64 b0.b) :: SV.v (Value.int IntKind.i64 b0.n) :: SV.v (Value.string (ByteArray.mk (Array.mk b0.text))) :: SV.v (Value.int IntKind.i64 b0.args0) :: SV.v (Value.int IntKind.i64 b0.args1) :: SV.v (Value.int IntKind.i64 b0.args2) :: SV.v (Value.int IntKind.i64 b0.args3) :: SV.v (Value.int IntKind.i64 b0.args4) :: SV.v (Value.int IntKind.i64 b0.args5) :: SV.v (Value.int IntKind.i64 b0.to_) :: SV.v (Value.int IntKind.i64 b0.else_) :: @List.nil SV ++ @List.nil SV))) (List.take (15 : Nat) (List.drop (0 : Nat) (SV.v (Value.int IntKind.i64 b1.kind) :: SV.v (Value.int IntKind.i64 b1.op) :: SV.v (Value.int IntKind.i64 b1.dst) :: SV.v (Value.int IntKind.i64 b1.a) :: SV.v (Value.int IntKind.i64 b1.b) :: SV.v (Value.int IntKind.i64 b1.n) :: SV.v (Value.string (ByteArray.mk (Array.mk b1.text))) :: SV.v (Value.int IntKind.i64 b1.args0) :: SV.v (Value.int IntKind.i64 b1.args1) :: SV.v (Value.int IntKind.i64 b1.args2) :: SV.v (Value.int IntKind.i64 b1.args3) :: SV.v (Value.int IntKind.i64 b1.args4) :: SV.v (Value.int IntKind.i64 b1.args5) :: SV.v (Value.int IntKind.i64 b1.to_) :: SV.v (Value.int IntKind.i64 b1.else_) :: @List.nil SV ++ @List.nil SV))), ()), ()) := Env.cut_eq' (E := Try.m21.E) (f0 := 3000) (c := 43) (q := ⟨[[0, 0, 1, 1, 1, 1, 1, 1, 1, 1, 1, 1, 1, 1, 1, 1, 1, 1], [0, 1, 1, 1, 1, 1, 1, 1, 1, 1, 1, 1, 1, 1, 1, 1, 1, 1]], [2, 5], 2, ⟨[.al 0 0, .al 1 0], [⟨0, 46, [.st 3], false⟩, ⟨1, 46, [.st 3], false⟩]⟩⟩) (by kernel_rfl) (((), (), ()), ((b0, ()), (b1, ()), ())) (by kernel_rfl) (by kernel_rfl)

def Try.m10.p : Pln := ⟨[(4, ⟨[[0, 0, 0, 0, 0, 1, 0, 1, 1], [0, 1, 0, 0, 0, 1, 0, 1, 1], [0, 1, 0, 0, 1, 0, 1, 1], [2, 0, 0, 1, 0, 1, 1], [1, 0], [0, 1, 1, 1]], [1, 3], 1, ⟨[.al 0 0, .fd (.int .i64)], [⟨0, 30, [.st 4], false⟩]⟩⟩)], 0, ⟨[.st 4], []⟩, ⟨[.fd .bool], []⟩, true, [(6, ⟨[(0, true), (1, false), (2, true), (3, false), (4, false), (5, false), (6, false), (7, true)], [], [0, 1, 0, 7, 15, 0, 63, 127], true⟩)], []⟩
noncomputable def Try.m10.E : Env En.Dop.D7 := envOf Try.prog 10 Try.tb [Try.m21.c] Try.m10.p
theorem Try.m10.ok : plnOk En.Dop.D7 Try.prog 10 Try.m10.p = true := by kernel_rfl
noncomputable def Try.m10.c : Ctr En.Dop.D7 := ⟨10, Try.m10.p.bn, Try.m10.p.sp, Try.m10.p.rs, Try.m10.p.flat, .opt (Try.m10.E.run 3000 Try.m10.p.sp)⟩
theorem Try.m10.holds : Try.m10.c.Holds Try.prog := fun_ctr 3000 Try.tbOk (hct_cons Try.m21.holds hct_nil) Try.m10.ok
noncomputable def Try.m10 (o : En.Dop.Fnc) : Option (Spec.D En.Dop.D7 ⟨[.fd .bool], []⟩) := Try.m10.E.run 3000 Try.m10.p.sp ((o, ()), ())
noncomputable def Try.m10_4 (t3 : Int) (b0 : En.Dop.Fnc) : Option (Spec.D En.Dop.D7 ⟨[.fd .bool], []⟩) := Try.m10.E.cut 3000 4 (((), t3, ()), ((b0, ()), ()))
theorem Try.m10_eq (o : En.Dop.Fnc) : Try.m10 o =
  if (decide (I o.name.length = (0 : Int))) = true then
   some ((false, ()), ())
  else
   if (decide (o.params < (0 : Int))) = true then
    some ((false, ()), ())
   else
    if (decide ((6 : Int) < o.params)) = true then
     some ((false, ()), ())
    else
     if (decide (o.regs < o.params)) = true then
      some ((false, ()), ())
     else
      if (decide ((4096 : Int) < o.regs)) = true then
       some ((false, ()), ())
      else
       if (decide (o.frame < (0 : Int))) = true then
        some ((false, ()), ())
       else
        if (decide ((4096 : Int) < o.frame)) = true then
         some ((false, ()), ())
        else
         if (decide (I o.code.length = (0 : Int))) = true then
          some ((false, ()), ())
         else
          if (decide ((8192 : Int) < I o.code.length)) = true then
           some ((false, ()), ())
          else
           Try.m10_4 ((0 : Int)) (o) := by kernel_rfl
theorem Try.m10_4_eq (t3 : Int) (b0 : En.Dop.Fnc) : Try.m10_4 t3 b0 =
  if (decide (t3 < I b0.code.length)) = true then
   if (decide ((0 : Int) ≤ t3 ∧ t3 < I b0.code.length)) = true then
   (Try.m21 (b0.code.getD t3.toNat Dop.d3) (b0)).bind fun y3 =>
    if (!y3.fst.fst) = true then
     some ((false, ()), ())
    else
     if (inR (t3 + (1 : Int))) = true then
     Try.m10_4 (t3 + (1 : Int)) (b0)
     else none
   else none
  else
   if (inR (I b0.code.length - (1 : Int))) = true then
   if (decide ((0 : Int) ≤ I b0.code.length - (1 : Int) ∧ I b0.code.length - (1 : Int) < I b0.code.length)) = true then
   some ((decide ((11 : Int) ≤ (b0.code.getD (I b0.code.length - (1 : Int)).toNat Dop.d3).kind), ()), ())
   else none
   else none := Env.cut_eq' (E := Try.m10.E) (f0 := 3000) (c := 4) (q := ⟨[[0, 0, 0, 0, 0, 1, 0, 1, 1], [0, 1, 0, 0, 0, 1, 0, 1, 1], [0, 1, 0, 0, 1, 0, 1, 1], [2, 0, 0, 1, 0, 1, 1], [1, 0], [0, 1, 1, 1]], [1, 3], 1, ⟨[.al 0 0, .fd (.int .i64)], [⟨0, 30, [.st 4], false⟩]⟩⟩) (by kernel_rfl) (((), t3, ()), ((b0, ()), ())) (by kernel_rfl) (by kernel_rfl)

def Try.m14.p : Pln := ⟨[(2, ⟨[[0, 0, 0, 0, 0, 1, 0, 1], [0, 1, 0, 0, 0, 1, 0, 1], [0, 1, 0, 0, 1, 0, 1], [2, 0, 0, 1, 0, 1], [1, 0], [0, 1, 1]], [1, 2, 5], 1, ⟨[.fd .str, .al 0 0, .fd (.int .i64)], [⟨0, 25, [.st 6], false⟩]⟩⟩)], 0, ⟨[.st 6, .fd .str], []⟩, ⟨[.fd (.int .i64)], []⟩, true, [], []⟩
noncomputable def Try.m14.E : Env En.Dop.D7 := envOf Try.prog 14 Try.tb [] Try.m14.p
theorem Try.m14.ok : plnOk En.Dop.D7 Try.prog 14 Try.m14.p = true := by kernel_rfl
noncomputable def Try.m14.c : Ctr En.Dop.D7 := ⟨14, Try.m14.p.bn, Try.m14.p.sp, Try.m14.p.rs, Try.m14.p.flat, .opt (Try.m14.E.run 3000 Try.m14.p.sp)⟩
theorem Try.m14.holds : Try.m14.c.Holds Try.prog := fun_ctr 3000 Try.tbOk hct_nil Try.m14.ok
noncomputable def Try.m14 (u : En.Dop.Unt) (name : List UInt8) : Option (Spec.D En.Dop.D7 ⟨[.fd (.int .i64)], []⟩) := Try.m14.E.run 3000 Try.m14.p.sp ((u, name, ()), ())
noncomputable def Try.m14_2 (name : List UInt8) (k : Int) (b0 : En.Dop.Unt) : Option (Spec.D En.Dop.D7 ⟨[.fd (.int .i64)], []⟩) := Try.m14.E.cut 3000 2 ((name, (), k, ()), ((b0, ()), ()))
theorem Try.m14_eq (u : En.Dop.Unt) (name : List UInt8) : Try.m14 u name =
  Try.m14_2 (name) ((0 : Int)) (u) := by kernel_rfl
theorem Try.m14_2_eq (name : List UInt8) (k : Int) (b0 : En.Dop.Unt) : Try.m14_2 name k b0 =
  if (decide (k < I b0.funcs.length)) = true then
   if (decide ((0 : Int) ≤ k ∧ k < I b0.funcs.length)) = true then
   if (decide ((b0.funcs.getD k.toNat Dop.d4).name = name)) = true then
    some ((k, ()), ())
   else
    if (inR (k + (1 : Int))) = true then
    Try.m14_2 (name) (k + (1 : Int)) (b0)
    else none
   else none
  else
   some (((-1 : Int), ()), ()) := Env.cut_eq' (E := Try.m14.E) (f0 := 3000) (c := 2) (q := ⟨[[0, 0, 0, 0, 0, 1, 0, 1], [0, 1, 0, 0, 0, 1, 0, 1], [0, 1, 0, 0, 1, 0, 1], [2, 0, 0, 1, 0, 1], [1, 0], [0, 1, 1]], [1, 2, 5], 1, ⟨[.fd .str, .al 0 0, .fd (.int .i64)], [⟨0, 25, [.st 6], false⟩]⟩⟩) (by kernel_rfl) ((name, (), k, ()), ((b0, ()), ())) (by kernel_rfl) (by kernel_rfl)

def Try.m12.p : Pln := ⟨[(4, ⟨[[0, 0, 0, 0, 0, 1, 0, 1, 1], [0, 1, 0, 0, 0, 1, 0, 1, 1], [0, 1, 0, 0, 1, 0, 1, 1], [2, 0, 0, 1, 0, 1, 1], [1, 0], [0, 1, 1, 1]], [1, 3], 1, ⟨[.al 0 0, .fd (.int .i64)], [⟨0, 25, [.st 6], false⟩]⟩⟩), (10, ⟨[[0, 0, 0, 0, 0, 1, 0, 1, 1, 1], [0, 1, 0, 0, 0, 1, 0, 1, 1, 1], [0, 1, 0, 0, 1, 0, 1, 1, 1], [2, 0, 0, 1, 0, 1, 1, 1], [1, 2], [0, 1, 1, 1, 1]], [1, 5], 1, ⟨[.al 0 0, .fd (.int .i64)], [⟨0, 25, [.st 6], false⟩]⟩⟩), (16, ⟨[[0, 0, 0, 0, 0, 1, 1, 1, 0, 0, 1, 0, 0, 1, 0, 1, 1, 1], [0, 1, 0, 0, 0, 1, 1, 1, 0, 0, 1, 0, 0, 1, 0, 1, 1, 1], [0, 1, 0, 0, 1, 1, 1, 0, 0, 1, 0, 0, 1, 0, 1, 1, 1], [2, 0, 0, 1, 1, 1, 0, 0, 1, 0, 0, 1, 0, 1, 1, 1], [1, 4], [1, 3], [0, 1, 1, 0, 0, 1, 0, 1, 1, 1], [2, 0, 0, 1, 0, 1, 1, 1], [1, 2], [0, 1, 1, 1, 1]], [1, 5, 6, 7], 2, ⟨[.al 0 0, .fd (.int .i64), .al 1 0, .fd (.int .i64)], [⟨0, 25, [.st 6], false⟩, ⟨1, 30, [.st 4], false⟩]⟩⟩)], 0, ⟨[.st 6], []⟩, ⟨[.fd .bool], []⟩, true, [(19, ⟨[(0, false), (1, true), (2, false), (3, true), (4, false), (5, false), (6, false), (7, false), (8, true)], [], [0, 0, 2, 0, 14, 30, 62, 127, 255], true⟩), (20, ⟨[(0, true), (1, true), (2, true), (3, true), (4, false), (5, true), (6, false), (7, false), (8, false), (9, true), (10, false), (11, true), (12, false), (13, false), (14, false), (15, true), (16, true)], [], [0, 1, 3, 7, 15, 7, 63, 127, 255, 7, 519, 7, 3591, 7687, 15879, 32767, 65535], false⟩)], []⟩
noncomputable def Try.m12.E : Env En.Dop.D7 := envOf Try.prog 12 Try.tb [Try.m23.c, Try.m10.c, Try.m14.c] Try.m12.p
theorem Try.m12.ok : plnOk En.Dop.D7 Try.prog 12 Try.m12.p = true := by kernel_rfl
noncomputable def Try.m12.c : Ctr En.Dop.D7 := ⟨12, Try.m12.p.bn, Try.m12.p.sp, Try.m12.p.rs, Try.m12.p.flat, .opt (Try.m12.E.run 3000 Try.m12.p.sp)⟩
theorem Try.m12.holds : Try.m12.c.Holds Try.prog := fun_ctr 3000 Try.tbOk (hct_cons Try.m23.holds (hct_cons Try.m10.holds (hct_cons Try.m14.holds hct_nil))) Try.m12.ok
noncomputable def Try.m12 (o : En.Dop.Unt) : Option (Spec.D En.Dop.D7 ⟨[.fd .bool], []⟩) := Try.m12.E.run 3000 Try.m12.p.sp ((o, ()), ())
noncomputable def Try.m12_4 (t3 : Int) (b0 : En.Dop.Unt) : Option (Spec.D En.Dop.D7 ⟨[.fd .bool], []⟩) := Try.m12.E.cut 3000 4 (((), t3, ()), ((b0, ()), ()))
noncomputable def Try.m12_10 (t5 : Int) (b0 : En.Dop.Unt) : Option (Spec.D En.Dop.D7 ⟨[.fd .bool], []⟩) := Try.m12.E.cut 3000 10 (((), t5, ()), ((b0, ()), ()))
noncomputable def Try.m12_16 (t5 : Int) (t7 : Int) (b0 : En.Dop.Unt) (b1 : En.Dop.Fnc) : Option (Spec.D En.Dop.D7 ⟨[.fd .bool], []⟩) := Try.m12.E.cut 3000 16 (((), t5, (), t7, ()), ((b0, ()), (b1, ()), ()))
theorem Try.m12_eq (o : En.Dop.Unt) : Try.m12 o =
  if (decide ((64 : Int) < I o.funcs.length)) = true then
   some ((false, ()), ())
  else
   if (decide (o.top < (1 : Int))) = true then
    some ((false, ()), ())
   else
    if (decide ((4096 : Int) < o.top)) = true then
     some ((false, ()), ())
    else
     Try.m12_4 ((0 : Int)) (o) := by kernel_rfl
theorem Try.m12_4_eq (t3 : Int) (b0 : En.Dop.Unt) : Try.m12_4 t3 b0 =
  if (decide (t3 < I b0.globals.length)) = true then
   if (decide ((0 : Int) ≤ t3 ∧ t3 < I b0.globals.length)) = true then
   if (decide ((b0.globals.getD t3.toNat Dop.d5).at_ < (1 : Int))) = true then
    some ((false, ()), ())
   else
    if (decide ((b0.globals.getD t3.toNat Dop.d5).size < (0 : Int))) = true then
     some ((false, ()), ())
    else
     if (decide (b0.top < (b0.globals.getD t3.toNat Dop.d5).at_)) = true then
      some ((false, ()), ())
     else
      if (decide (b0.top < (b0.globals.getD t3.toNat Dop.d5).size)) = true then
       some ((false, ()), ())
      else
       if (inR ((b0.globals.getD t3.toNat Dop.d5).at_ + (b0.globals.getD t3.toNat Dop.d5).size)) = true then
       if (decide (b0.top < (b0.globals.getD t3.toNat Dop.d5).at_ + (b0.globals.getD t3.toNat Dop.d5).size)) = true then
        some ((false, ()), ())
       else
        (Try.m23 ((b0.globals.getD t3.toNat Dop.d5).init_)).bind fun y8 =>
         if (!y8.fst.fst) = true then
          some ((false, ()), ())
         else
          if (inR (t3 + (1 : Int))) = true then
          Try.m12_4 (t3 + (1 : Int)) (b0)
          else none
       else none
   else none
  else
   Try.m12_10 ((0 : Int)) (b0) := Env.cut_eq' (E := Try.m12.E) (f0 := 3000) (c := 4) (q := ⟨[[0, 0, 0, 0, 0, 1, 0, 1, 1], [0, 1, 0, 0, 0, 1, 0, 1, 1], [0, 1, 0, 0, 1, 0, 1, 1], [2, 0, 0, 1, 0, 1, 1], [1, 0], [0, 1, 1, 1]], [1, 3], 1, ⟨[.al 0 0, .fd (.int .i64)], [⟨0, 25, [.st 6], false⟩]⟩⟩) (by kernel_rfl) (((), t3, ()), ((b0, ()), ())) (by kernel_rfl) (by kernel_rfl)
theorem Try.m12_10_eq (t5 : Int) (b0 : En.Dop.Unt) : Try.m12_10 t5 b0 =
  if (decide (t5 < I b0.funcs.length)) = true then
   if (decide ((0 : Int) ≤ t5 ∧ t5 < I b0.funcs.length)) = true then
   (Try.m10 (b0.funcs.getD t5.toNat Dop.d4)).bind fun y3 =>
    if (!y3.fst.fst) = true then
     some ((false, ()), ())
    else
     (Try.m14 (b0) ((b0.funcs.getD t5.toNat Dop.d4).name)).bind fun y5 =>
      if (!decide (y5.fst.fst = t5)) = true then
       some ((false, ()), ())
      else
       Try.m12_16 (t5) ((0 : Int)) (b0) (b0.funcs.getD t5.toNat Dop.d4)
   else none
  else
   some ((true, ()), ()) := Env.cut_eq' (E := Try.m12.E) (f0 := 3000) (c := 10) (q := ⟨[[0, 0, 0, 0, 0, 1, 0, 1, 1, 1], [0, 1, 0, 0, 0, 1, 0, 1, 1, 1], [0, 1, 0, 0, 1, 0, 1, 1, 1], [2, 0, 0, 1, 0, 1, 1, 1], [1, 2], [0, 1, 1, 1, 1]], [1, 5], 1, ⟨[.al 0 0, .fd (.int .i64)], [⟨0, 25, [.st 6], false⟩]⟩⟩) (by kernel_rfl) (((), t5, ()), ((b0, ()), ())) (by kernel_rfl) (by kernel_rfl)
theorem Try.m12_16_eq (t5 : Int) (t7 : Int) (b0 : En.Dop.Unt) (b1 : En.Dop.Fnc) : Try.m12_16 t5 t7 b0 b1 =
  if (decide (t7 < I b1.code.length)) = true then
   if (decide ((0 : Int) ≤ t7 ∧ t7 < I b1.code.length)) = true then
   if (decide ((b1.code.getD t7.toNat Dop.d3).kind = (8 : Int))) = true then
    if (decide ((0 : Int) ≤ t7 ∧ t7 < I b1.code.length)) = true then
    (Try.m14 (b0) ((b1.code.getD t7.toNat Dop.d3).text)).bind fun y4 =>
     if (decide (y4.fst.fst < (0 : Int))) = true then
      some ((false, ()), ())
     else
      if (decide ((0 : Int) ≤ y4.fst.fst ∧ y4.fst.fst < I b0.funcs.length)) = true then
      if (decide ((0 : Int) ≤ t7 ∧ t7 < I b1.code.length)) = true then
      if (!decide ((b0.funcs.getD y4.fst.fst.toNat Dop.d4).params = (b1.code.getD t7.toNat Dop.d3).n)) = true then
       some ((false, ()), ())
      else
       if (inR (t7 + (1 : Int))) = true then
       Try.m12_16 (t5) (t7 + (1 : Int)) (b0) (b1)
       else none
      else none
      else none
    else none
   else
    if (inR (t7 + (1 : Int))) = true then
    Try.m12_16 (t5) (t7 + (1 : Int)) (b0) (b1)
    else none
   else none
  else
   if (inR (t5 + (1 : Int))) = true then
   Try.m12_10 (t5 + (1 : Int)) (b0)
   else none := Env.cut_eq' (E := Try.m12.E) (f0 := 3000) (c := 16) (q := ⟨[[0, 0, 0, 0, 0, 1, 1, 1, 0, 0, 1, 0, 0, 1, 0, 1, 1, 1], [0, 1, 0, 0, 0, 1, 1, 1, 0, 0, 1, 0, 0, 1, 0, 1, 1, 1], [0, 1, 0, 0, 1, 1, 1, 0, 0, 1, 0, 0, 1, 0, 1, 1, 1], [2, 0, 0, 1, 1, 1, 0, 0, 1, 0, 0, 1, 0, 1, 1, 1], [1, 4], [1, 3], [0, 1, 1, 0, 0, 1, 0, 1, 1, 1], [2, 0, 0, 1, 0, 1, 1, 1], [1, 2], [0, 1, 1, 1, 1]], [1, 5, 6, 7], 2, ⟨[.al 0 0, .fd (.int .i64), .al 1 0, .fd (.int .i64)], [⟨0, 25, [.st 6], false⟩, ⟨1, 30, [.st 4], false⟩]⟩⟩) (by kernel_rfl) (((), t5, (), t7, ()), ((b0, ()), (b1, ()), ())) (by kernel_rfl) (by kernel_rfl)

def Try.m3.p : Pln := ⟨[(4, ⟨[[0, 0, 0, 0, 1, 0, 1, 1], [0, 1, 0, 0, 1, 0, 1, 1], [2, 0, 0, 1, 0, 1, 1], [1, 0], [0, 1, 1, 1]], [1, 2, 17, 18, 19], 1, ⟨[.fd .str, .al 0 0, .fd (.sl 4), .fd (.int .i64), .fd (.int .i64)], [⟨0, 25, [.st 6], false⟩]⟩⟩)], 0, ⟨[.st 6, .fd .str], []⟩, ⟨[.fd .bool], []⟩, true, [(6, ⟨[(0, false), (1, false), (2, false), (3, false), (4, true)], [], [0, 1, 0, 7, 15], true⟩), (9, ⟨[(0, false), (1, false), (2, false), (3, false), (4, true), (5, true), (6, false), (7, true), (8, false), (9, false), (10, true), (11, false), (12, true), (13, true), (14, true), (15, false), (16, true), (17, true)], [], [0, 1, 0, 7, 15, 31, 63, 63, 255, 63, 63, 2047, 4095, 8191, 16383, 32767, 65535, 131071], true⟩)], []⟩
noncomputable def Try.m3.E : Env En.Dop.D7 := envOf Try.prog 3 Try.tb [Try.m7.c, Try.m8.c, Try.m9.c, Try.m10.c, Try.m11.c, Try.m12.c, Try.m13.c, Try.m14.c] Try.m3.p
theorem Try.m3.ok : plnOk En.Dop.D7 Try.prog 3 Try.m3.p = true := by kernel_rfl
noncomputable def Try.m3.c : Ctr En.Dop.D7 := ⟨3, Try.m3.p.bn, Try.m3.p.sp, Try.m3.p.rs, Try.m3.p.flat, .opt (Try.m3.E.run 3000 Try.m3.p.sp)⟩
theorem Try.m3.holds : Try.m3.c.Holds Try.prog := fun_ctr 3000 Try.tbOk (hct_cons Try.m7.holds (hct_cons Try.m8.holds (hct_cons Try.m9.holds (hct_cons Try.m10.holds (hct_cons Try.m11.holds (hct_cons Try.m12.holds (hct_cons Try.m13.holds (hct_cons Try.m14.holds hct_nil)))))))) Try.m3.ok
noncomputable def Try.m3 (u : En.Dop.Unt) (name : List UInt8) : Option (Spec.D En.Dop.D7 ⟨[.fd .bool], []⟩) := Try.m3.E.run 3000 Try.m3.p.sp ((u, name, ()), ())
noncomputable def Try.m3_4 (name : List UInt8) (t17 : List (En.Dop.Fnc)) (t18 : Int) (t19 : Int) (b0 : En.Dop.Unt) : Option (Spec.D En.Dop.D7 ⟨[.fd .bool], []⟩) := Try.m3.E.cut 3000 4 ((name, (), t17, t18, t19, ()), ((b0, ()), ()))
theorem Try.m3_eq (u : En.Dop.Unt) (name : List UInt8) : Try.m3 u name =
  (Try.m7 (u)).bind fun y2 =>
   if (!y2.fst.fst) = true then
    (Try.m8).bind fun y4 =>
     some ((y4.fst.fst, ()), ())
   else
    if (decide ((50 : Int) < I name.length)) = true then
     (Try.m8).bind fun y5 =>
      some ((y5.fst.fst, ()), ())
    else
     Try.m3_4 (name) (u.funcs) (I u.funcs.length) ((0 : Int)) (u) := by kernel_rfl
theorem Try.m3_4_eq (name : List UInt8) (t17 : List (En.Dop.Fnc)) (t18 : Int) (t19 : Int) (b0 : En.Dop.Unt) : Try.m3_4 name t17 t18 t19 b0 =
  if (decide (t19 < t18)) = true then
   if (decide ((0 : Int) ≤ t19 ∧ t19 < I t17.length)) = true then
   (Try.m9 (t17.getD t19.toNat Dop.d4)).bind fun y3 =>
    (Try.m10 (t17.getD t19.toNat Dop.d4)).bind fun y4 =>
     if (!y3.fst.fst == y4.fst.fst) = true then
      some ((false, ()), ())
     else
      if (inR (t19 + (1 : Int))) = true then
      Try.m3_4 (name) (t17) (t18) (t19 + (1 : Int)) (b0)
      else none
   else none
  else
   (Try.m11 (b0)).bind fun y3 =>
    (Try.m12 (b0)).bind fun y4 =>
     if (y3.fst.fst == y4.fst.fst) = true then
      (Try.m13 (b0) (name)).bind fun y6 =>
       (Try.m14 (b0) (name)).bind fun y7 =>
        if (decide (y6.fst.fst = y7.fst.fst)) = true then
         (Try.m8).bind fun y9 =>
          some ((y9.fst.fst, ()), ())
        else
         some ((false, ()), ())
     else
      some ((false, ()), ()) := Env.cut_eq' (E := Try.m3.E) (f0 := 3000) (c := 4) (q := ⟨[[0, 0, 0, 0, 1, 0, 1, 1], [0, 1, 0, 0, 1, 0, 1, 1], [2, 0, 0, 1, 0, 1, 1], [1, 0], [0, 1, 1, 1]], [1, 2, 17, 18, 19], 1, ⟨[.fd .str, .al 0 0, .fd (.sl 4), .fd (.int .i64), .fd (.int .i64)], [⟨0, 25, [.st 6], false⟩]⟩⟩) (by kernel_rfl) ((name, (), t17, t18, t19, ()), ((b0, ()), ())) (by kernel_rfl) (by kernel_rfl)

def Try.m16.p : Pln := ⟨[(4, ⟨[[0, 0, 0, 0, 1, 0, 1, 1], [0, 1, 0, 0, 1, 0, 1, 1], [2, 0, 0, 1, 0, 1, 1], [1, 0], [0, 1, 1, 1]], [2, 3, 29, 30], 2, ⟨[.al 0 0, .al 1 0, .fd (.int .i64), .fd (.int .i64)], [⟨0, 36, [.st 8], false⟩, ⟨1, 36, [.st 8], false⟩]⟩⟩)], 0, ⟨[.st 8, .st 8], []⟩, ⟨[.fd .bool], []⟩, true, [(6, ⟨[(0, true), (1, false), (2, true), (3, false), (4, false), (5, true), (6, false), (7, true), (8, false), (9, false), (10, true)], [], [0, 1, 0, 7, 15, 0, 32, 0, 224, 480, 1023], false⟩)], []⟩
noncomputable def Try.m16.E : Env En.Dop.D7 := envOf Try.prog 16 Try.tb [] Try.m16.p
theorem Try.m16.ok : plnOk En.Dop.D7 Try.prog 16 Try.m16.p = true := by kernel_rfl
noncomputable def Try.m16.c : Ctr En.Dop.D7 := ⟨16, Try.m16.p.bn, Try.m16.p.sp, Try.m16.p.rs, Try.m16.p.flat, .opt (Try.m16.E.run 3000 Try.m16.p.sp)⟩
theorem Try.m16.holds : Try.m16.c.Holds Try.prog := fun_ctr 3000 Try.tbOk hct_nil Try.m16.ok
noncomputable def Try.m16 (a : En.Dop.Res) (b : En.Dop.Res) : Option (Spec.D En.Dop.D7 ⟨[.fd .bool], []⟩) := Try.m16.E.run 3000 Try.m16.p.sp ((a, b, ()), ())
noncomputable def Try.m16_4 (t29 : Int) (t30 : Int) (b0 : En.Dop.Res) (b1 : En.Dop.Res) : Option (Spec.D En.Dop.D7 ⟨[.fd .bool], []⟩) := Try.m16.E.cut 3000 4 (((), (), t29, t30, ()), ((b0, ()), (b1, ()), ()))
theorem Try.m16_eq (a : En.Dop.Res) (b : En.Dop.Res) : Try.m16 a b =
  if (!decide (a.end_ = b.end_)) = true then
   some ((false, ()), ())
  else
   if (!decide (a.code = b.code)) = true then
    some ((false, ()), ())
   else
    if (!decide (I a.output.length = I b.output.length)) = true then
     some ((false, ()), ())
    else
     Try.m16_4 (I a.output.length) ((0 : Int)) (a) (b) := by kernel_rfl
theorem Try.m16_4_eq (t29 : Int) (t30 : Int) (b0 : En.Dop.Res) (b1 : En.Dop.Res) : Try.m16_4 t29 t30 b0 b1 =
  if (decide (t30 < t29)) = true then
   if (decide ((0 : Int) ≤ t30 ∧ t30 < I b0.output.length)) = true then
   if (decide ((0 : Int) ≤ t30 ∧ t30 < I b1.output.length)) = true then
   if (!decide (b0.output.getD t30.toNat (0 : Int) = b1.output.getD t30.toNat (0 : Int))) = true then
    some ((false, ()), ())
   else
    if (inR (t30 + (1 : Int))) = true then
    Try.m16_4 (t29) (t30 + (1 : Int)) (b0) (b1)
    else none
   else none
   else none
  else
   some ((true, ()), ()) := Env.cut_eq' (E := Try.m16.E) (f0 := 3000) (c := 4) (q := ⟨[[0, 0, 0, 0, 1, 0, 1, 1], [0, 1, 0, 0, 1, 0, 1, 1], [2, 0, 0, 1, 0, 1, 1], [1, 0], [0, 1, 1, 1]], [2, 3, 29, 30], 2, ⟨[.al 0 0, .al 1 0, .fd (.int .i64), .fd (.int .i64)], [⟨0, 36, [.st 8], false⟩, ⟨1, 36, [.st 8], false⟩]⟩⟩) (by kernel_rfl) (((), (), t29, t30, ()), ((b0, ()), (b1, ()), ())) (by kernel_rfl) (by kernel_rfl)

def Try.m4.p : Pln := ⟨[], 0, ⟨[.st 6, .fd (.sl 2), .fd (.int .i64), .fd (.int .i64)], []⟩, ⟨[.fd .bool], []⟩, true, [(3, ⟨[(0, false), (1, true), (2, true), (3, false), (4, false), (5, true), (6, true), (7, false), (8, false), (9, false)], [10, 11], [0, 0, 0, 7, 0, 0, 0, 127, 0, 0, 1023, 2047], true⟩), (6, ⟨[(0, true), (1, false), (2, false), (3, true), (4, false), (5, false), (6, true), (7, true), (8, true), (9, false), (10, true), (11, true), (12, false), (13, true), (14, false), (15, false), (16, true), (17, true), (18, false), (19, true), (20, true), (21, false), (22, true), (23, true)], [], [0, 1, 3, 0, 8, 24, 63, 127, 255, 511, 1023, 255, 2303, 255, 8447, 24831, 63743, 129279, 262143, 524287, 1048575, 2097151, 4194303, 8388607], true⟩)], []⟩
noncomputable def Try.m4.E : Env En.Dop.D7 := envOf Try.prog 4 Try.tb [Try.m7.c, Try.m8.c, Try.m15.c, Try.m16.c] Try.m4.p
theorem Try.m4.ok : plnOk En.Dop.D7 Try.prog 4 Try.m4.p = true := by kernel_rfl
noncomputable def Try.m4.c : Ctr En.Dop.D7 := ⟨4, Try.m4.p.bn, Try.m4.p.sp, Try.m4.p.rs, Try.m4.p.flat, .opt (Try.m4.E.run 3000 Try.m4.p.sp)⟩
theorem Try.m4.holds : Try.m4.c.Holds Try.prog := fun_ctr 3000 Try.tbOk (hct_cons Try.m7.holds (hct_cons Try.m8.holds (hct_cons Try.m15.holds (hct_cons Try.m16.holds hct_nil)))) Try.m4.ok
noncomputable def Try.m4 (o : En.Dop.Unt) (t1 : List (Int)) (t2 : Int) (t3 : Int) : Option (Spec.D En.Dop.D7 ⟨[.fd .bool], []⟩) := Try.m4.E.run 3000 Try.m4.p.sp ((o, t1, t2, t3, ()), ())
theorem Try.m4_eq (o : En.Dop.Unt) (t1 : List (Int)) (t2 : Int) (t3 : Int) : Try.m4 o t1 t2 t3 =
  (Try.m7 (o)).bind fun y2 =>
   if (!y2.fst.fst) = true then
    (Try.m8).bind fun y4 =>
     some ((y4.fst.fst, ()), ())
   else
    if (decide ((200 : Int) < I t1.length)) = true then
     (Try.m8).bind fun y5 =>
      some ((y5.fst.fst, ()), ())
    else
     if (decide (t3 < t2)) = true then
      (Try.m8).bind fun y6 =>
       some ((y6.fst.fst, ()), ())
     else
      if (decide ((5000 : Int) < t3)) = true then
       (Try.m8).bind fun y7 =>
        some ((y7.fst.fst, ()), ())
      else
       (Try.m15 (o) (t1) (t2)).bind fun y7 =>
        (Try.m15 (o) (t1) (t3)).bind fun y8 =>
         if (!decide (y7.fst.fst.end_ = (4 : Int))) = true then
          (Try.m16 (y7.fst.fst) (y8.fst.fst)).bind fun y10 =>
           if (y10.fst.fst) = true then
            (Try.m8).bind fun y12 =>
             some ((y12.fst.fst, ()), ())
           else
            some ((false, ()), ())
         else
          if (decide (I y7.fst.fst.output.length ≤ I y8.fst.fst.output.length)) = true then
           if (decide ((0 : Int) ≤ (0 : Int) ∧ (0 : Int) ≤ I y7.fst.fst.output.length ∧ I y7.fst.fst.output.length ≤ I y8.fst.fst.output.length)) = true then
           (Try.m16 (Dop.Res.mk (0 : Int) (0 : Int) y7.fst.fst.output) (Dop.Res.mk (0 : Int) (0 : Int) (List.drop (Int.toNat (0 : Int)) (List.take (I y7.fst.fst.output.length).toNat y8.fst.fst.output)))).bind fun y11 =>
            if (y11.fst.fst) = true then
             (Try.m8).bind fun y13 =>
              some ((y13.fst.fst, ()), ())
            else
             some ((false, ()), ())
           else none
          else
           some ((false, ()), ()) := by kernel_rfl

def Try.m6.p : Pln := ⟨[(4, ⟨[[0, 0, 0, 0, 1, 0, 1, 1], [0, 1, 0, 0, 1, 0, 1, 1], [2, 0, 0, 1, 0, 1, 1], [1, 0], [0, 1, 1, 1]], [1, 2, 3, 25, 26, 27], 1, ⟨[.fd (.sl 2), .fd (.int .i64), .al 0 0, .fd (.sl 4), .fd (.int .i64), .fd (.int .i64)], [⟨0, 25, [.st 6], false⟩]⟩⟩), (7, ⟨[[0, 0, 0, 0, 1, 1, 0, 0, 1, 1, 0, 0, 1, 0, 1, 1], [0, 1, 0, 0, 1, 1, 0, 0, 1, 1, 0, 0, 1, 0, 1, 1], [2, 0, 0, 1, 1, 0, 0, 1, 1, 0, 0, 1, 0, 1, 1], [1, 2], [1, 1], [0, 1, 1, 1, 0, 0, 1, 0, 1, 1], [2, 0, 0, 1, 0, 1, 1], [1, 0], [0, 1, 1, 1]], [1, 2, 3, 25, 26, 27, 32, 33, 34], 1, ⟨[.fd (.sl 2), .fd (.int .i64), .al 0 0, .fd (.sl 4), .fd (.int .i64), .fd (.int .i64), .fd (.sl 3), .fd (.int .i64), .fd (.int .i64)], [⟨0, 25, [.st 6], false⟩]⟩⟩)], 0, ⟨[.st 6, .fd (.sl 2), .fd (.int .i64)], []⟩, ⟨[.fd .bool], []⟩, true, [(13, ⟨[(0, false), (1, true), (2, true), (3, false), (4, false), (5, true), (6, false), (7, false), (8, true), (9, false), (10, true), (11, true)], [], [0, 0, 0, 7, 0, 0, 63, 127, 255, 511, 1023, 2047], true⟩)], []⟩
noncomputable def Try.m6.E : Env En.Dop.D7 := envOf Try.prog 6 Try.tb [Try.m7.c, Try.m8.c, Try.m15.c, Try.m16.c] Try.m6.p
theorem Try.m6.ok : plnOk En.Dop.D7 Try.prog 6 Try.m6.p = true := by kernel_rfl
noncomputable def Try.m6.c : Ctr En.Dop.D7 := ⟨6, Try.m6.p.bn, Try.m6.p.sp, Try.m6.p.rs, Try.m6.p.flat, .opt (Try.m6.E.run 3000 Try.m6.p.sp)⟩
theorem Try.m6.holds : Try.m6.c.Holds Try.prog := fun_ctr 3000 Try.tbOk (hct_cons Try.m7.holds (hct_cons Try.m8.holds (hct_cons Try.m15.holds (hct_cons Try.m16.holds hct_nil)))) Try.m6.ok
noncomputable def Try.m6 (u : En.Dop.Unt) (input : List (Int)) (fuel : Int) : Option (Spec.D En.Dop.D7 ⟨[.fd .bool], []⟩) := Try.m6.E.run 3000 Try.m6.p.sp ((u, input, fuel, ()), ())
noncomputable def Try.m6_4 (input : List (Int)) (fuel : Int) (t25 : List (En.Dop.Fnc)) (t26 : Int) (t27 : Int) (b0 : En.Dop.Unt) : Option (Spec.D En.Dop.D7 ⟨[.fd .bool], []⟩) := Try.m6.E.cut 3000 4 ((input, fuel, (), t25, t26, t27, ()), ((b0, ()), ()))
noncomputable def Try.m6_7 (input : List (Int)) (fuel : Int) (t25 : List (En.Dop.Fnc)) (t26 : Int) (t27 : Int) (t32 : List (En.Dop.Ins)) (t33 : Int) (t34 : Int) (b0 : En.Dop.Unt) : Option (Spec.D En.Dop.D7 ⟨[.fd .bool], []⟩) := Try.m6.E.cut 3000 7 ((input, fuel, (), t25, t26, t27, t32, t33, t34, ()), ((b0, ()), ()))
theorem Try.m6_eq (u : En.Dop.Unt) (input : List (Int)) (fuel : Int) : Try.m6 u input fuel =
  (Try.m7 (u)).bind fun y2 =>
   if (!y2.fst.fst) = true then
    (Try.m8).bind fun y4 =>
     some ((y4.fst.fst, ()), ())
   else
    if (decide ((200 : Int) < I input.length)) = true then
     (Try.m8).bind fun y5 =>
      some ((y5.fst.fst, ()), ())
    else
     if (decide ((5000 : Int) < fuel)) = true then
      (Try.m8).bind fun y6 =>
       some ((y6.fst.fst, ()), ())
     else
      Try.m6_4 (input) (fuel) (u.funcs) (I u.funcs.length) ((0 : Int)) (u) := by kernel_rfl
theorem Try.m6_4_eq (input : List (Int)) (fuel : Int) (t25 : List (En.Dop.Fnc)) (t26 : Int) (t27 : Int) (b0 : En.Dop.Unt) : Try.m6_4 input fuel t25 t26 t27 b0 =
  if (decide (t27 < t26)) = true then
   if (decide ((0 : Int) ≤ t27 ∧ t27 < I t25.length)) = true then
   Try.m6_7 (input) (fuel) (t25) (t26) (t27) ((t25.getD t27.toNat Dop.d4).code) (I (t25.getD t27.toNat Dop.d4).code.length) ((0 : Int)) (b0)
   else none
  else
   (Try.m15 (b0) (input) (fuel)).bind fun y3 =>
    (Try.m15 (b0) (@List.nil Int) (fuel)).bind fun y4 =>
     (Try.m16 (y3.fst.fst) (y4.fst.fst)).bind fun y5 =>
      if (y5.fst.fst) = true then
       (Try.m8).bind fun y7 =>
        some ((y7.fst.fst, ()), ())
      else
       some ((false, ()), ()) := Env.cut_eq' (E := Try.m6.E) (f0 := 3000) (c := 4) (q := ⟨[[0, 0, 0, 0, 1, 0, 1, 1], [0, 1, 0, 0, 1, 0, 1, 1], [2, 0, 0, 1, 0, 1, 1], [1, 0], [0, 1, 1, 1]], [1, 2, 3, 25, 26, 27], 1, ⟨[.fd (.sl 2), .fd (.int .i64), .al 0 0, .fd (.sl 4), .fd (.int .i64), .fd (.int .i64)], [⟨0, 25, [.st 6], false⟩]⟩⟩) (by kernel_rfl) ((input, fuel, (), t25, t26, t27, ()), ((b0, ()), ())) (by kernel_rfl) (by kernel_rfl)
theorem Try.m6_7_eq (input : List (Int)) (fuel : Int) (t25 : List (En.Dop.Fnc)) (t26 : Int) (t27 : Int) (t32 : List (En.Dop.Ins)) (t33 : Int) (t34 : Int) (b0 : En.Dop.Unt) : Try.m6_7 input fuel t25 t26 t27 t32 t33 t34 b0 =
  if (decide (t34 < t33)) = true then
   if (decide ((0 : Int) ≤ t34 ∧ t34 < I t32.length)) = true then
   if (decide ((t32.getD t34.toNat Dop.d3).kind = (9 : Int))) = true then
    (Try.m8).bind fun y4 =>
     some ((y4.fst.fst, ()), ())
   else
    if (inR (t34 + (1 : Int))) = true then
    Try.m6_7 (input) (fuel) (t25) (t26) (t27) (t32) (t33) (t34 + (1 : Int)) (b0)
    else none
   else none
  else
   if (inR (t27 + (1 : Int))) = true then
   Try.m6_4 (input) (fuel) (t25) (t26) (t27 + (1 : Int)) (b0)
   else none := Env.cut_eq' (E := Try.m6.E) (f0 := 3000) (c := 7) (q := ⟨[[0, 0, 0, 0, 1, 1, 0, 0, 1, 1, 0, 0, 1, 0, 1, 1], [0, 1, 0, 0, 1, 1, 0, 0, 1, 1, 0, 0, 1, 0, 1, 1], [2, 0, 0, 1, 1, 0, 0, 1, 1, 0, 0, 1, 0, 1, 1], [1, 2], [1, 1], [0, 1, 1, 1, 0, 0, 1, 0, 1, 1], [2, 0, 0, 1, 0, 1, 1], [1, 0], [0, 1, 1, 1]], [1, 2, 3, 25, 26, 27, 32, 33, 34], 1, ⟨[.fd (.sl 2), .fd (.int .i64), .al 0 0, .fd (.sl 4), .fd (.int .i64), .fd (.int .i64), .fd (.sl 3), .fd (.int .i64), .fd (.int .i64)], [⟨0, 25, [.st 6], false⟩]⟩⟩) (by kernel_rfl) ((input, fuel, (), t25, t26, t27, t32, t33, t34, ()), ((b0, ()), ())) (by kernel_rfl) (by kernel_rfl)
end Go.Proofs
