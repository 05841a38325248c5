/-
  Functions of the seat, lifted: plan, model, contract, equations. Written by a program (Lift) that ran the layer's evaluation; Lean checks each line.
-/
import Derived.Test.YtfonahhlkanabaaDoorEn14
import Derived.Test.YtfonahhlkanabaaDoorTab2
import Derived.Test.YtfonahhlkanabaaDoorLb
namespace Go.Proofs
open Go Go.En

def Tryd.m4.p : Pln := ⟨[(4, ⟨[[0, 0, 0, 0, 1, 0, 1, 1], [0, 1, 0, 0, 1, 0, 1, 1], [2, 0, 0, 1, 0, 1, 1], [1, 0], [0, 1, 1, 1]], [26, 27, 28], 0, ⟨[.fd (.sl 3), .fd (.int .i64), .fd (.int .i64)], []⟩⟩)], 0, ⟨[.st 4], []⟩, ⟨[.fd .bool], []⟩, true, [], []⟩
noncomputable def Tryd.m4.E : Env En.Dop.D7 := envOf Tryd.prog 4 Tryd.tb [] Tryd.m4.p
theorem Tryd.m4.ok : plnOk En.Dop.D7 Tryd.prog 4 Tryd.m4.p = true := by kernel_rfl
noncomputable def Tryd.m4.c : Ctr En.Dop.D7 := ⟨4, Tryd.m4.p.bn, Tryd.m4.p.sp, Tryd.m4.p.rs, Tryd.m4.p.flat, .opt (Tryd.m4.E.run 3000 Tryd.m4.p.sp)⟩
theorem Tryd.m4.holds : Tryd.m4.c.Holds Tryd.prog := fun_ctr 3000 Tryd.tbOk hct_nil Tryd.m4.ok
noncomputable def Tryd.m4 (f : En.Dop.Fnc) : Option (Spec.D En.Dop.D7 ⟨[.fd .bool], []⟩) := Tryd.m4.E.run 3000 Tryd.m4.p.sp ((f, ()), ())
noncomputable def Tryd.m4_4 (t26 : List (En.Dop.Ins)) (t27 : Int) (t28 : Int) : Option (Spec.D En.Dop.D7 ⟨[.fd .bool], []⟩) := Tryd.m4.E.cut 3000 4 ((t26, t27, t28, ()), ())
theorem Tryd.m4_eq (f : En.Dop.Fnc) : Tryd.m4 f =
  if (decide ((50 : Int) < I f.name.length)) = true then
   some ((false, ()), ())
  else
   if (decide ((60 : Int) < I f.code.length)) = true then
    some ((false, ()), ())
   else
    if (decide ((40 : Int) < f.regs)) = true then
     if (decide (f.regs ≤ (4096 : Int))) = true then
      some ((false, ()), ())
     else
      Tryd.m4_4 (f.code) (I f.code.length) ((0 : Int))
    else
     Tryd.m4_4 (f.code) (I f.code.length) ((0 : Int)) := by kernel_rfl
theorem Tryd.m4_4_eq (t26 : List (En.Dop.Ins)) (t27 : Int) (t28 : Int) : Tryd.m4_4 t26 t27 t28 =
  if (decide (t28 < t27)) = true then
   if (decide ((0 : Int) ≤ t28 ∧ t28 < I t26.length)) = true then
   if (decide ((50 : Int) < I (@List.getD Dop.Ins t26 t28.toNat Dop.d3).text.length)) = true then
    some ((false, ()), ())
   else
    if (inR (t28 + (1 : Int))) = true then
    Tryd.m4_4 (t26) (t27) (t28 + (1 : Int))
    else none
   else none
  else
   some ((true, ()), ()) := Env.cut_eq' (E := Tryd.m4.E) (f0 := 3000) (c := 4) (q := ⟨[[0, 0, 0, 0, 1, 0, 1, 1], [0, 1, 0, 0, 1, 0, 1, 1], [2, 0, 0, 1, 0, 1, 1], [1, 0], [0, 1, 1, 1]], [26, 27, 28], 0, ⟨[.fd (.sl 3), .fd (.int .i64), .fd (.int .i64)], []⟩⟩) (by kernel_rfl) ((t26, t27, t28, ()), ()) (by kernel_rfl) (by kernel_rfl)

def Tryd.m9.p : Pln := ⟨[], 0, ⟨[.fd (.int .i64)], []⟩, ⟨[.st 3], []⟩, true, [], []⟩
noncomputable def Tryd.m9.E : Env En.Dop.D7 := envOf Tryd.prog 9 Tryd.tb [] Tryd.m9.p
theorem Tryd.m9.ok : plnOk En.Dop.D7 Tryd.prog 9 Tryd.m9.p = true := by kernel_rfl
noncomputable def Tryd.m9.c : Ctr En.Dop.D7 := ⟨9, Tryd.m9.p.bn, Tryd.m9.p.sp, Tryd.m9.p.rs, Tryd.m9.p.flat, .opt (Tryd.m9.E.run 3000 Tryd.m9.p.sp)⟩
theorem Tryd.m9.holds : Tryd.m9.c.Holds Tryd.prog := fun_ctr 3000 Tryd.tbOk hct_nil Tryd.m9.ok
noncomputable def Tryd.m9 (kind : Int) : Option (Spec.D En.Dop.D7 ⟨[.st 3], []⟩) := Tryd.m9.E.run 3000 Tryd.m9.p.sp ((kind, ()), ())
theorem Tryd.m9_eq (kind : Int) : Tryd.m9 kind =
  some ((Dop.Ins.mk kind (0 : Int) (-1 : Int) (0 : Int) (0 : Int) (0 : Int) (@List.nil UInt8) (0 : Int) (0 : Int) (0 : Int) (0 : Int) (0 : Int) (0 : Int) (0 : Int) (-1 : Int), ()), ()) := by kernel_rfl

def Tryd.m31.p : Pln := ⟨[], 1, ⟨[.st 4, .al 0 0], [⟨0, 9, [.st 1], false⟩]⟩, ⟨[.fd .bool], [⟨0, 9, [.fd .str], false⟩]⟩, true, [], []⟩
noncomputable def Tryd.m31.E : Env En.Dop.D7 := envOf Tryd.prog 31 Tryd.tb [] Tryd.m31.p
theorem Tryd.m31.ok : plnOk En.Dop.D7 Tryd.prog 31 Tryd.m31.p = true := by kernel_rfl
noncomputable def Tryd.m31.c : Ctr En.Dop.D7 := ⟨31, Tryd.m31.p.bn, Tryd.m31.p.sp, Tryd.m31.p.rs, Tryd.m31.p.flat, .opt (Tryd.m31.E.run 3000 Tryd.m31.p.sp)⟩
theorem Tryd.m31.holds : Tryd.m31.c.Holds Tryd.prog := fun_ctr 3000 Tryd.tbOk hct_nil Tryd.m31.ok
noncomputable def Tryd.m31 (f : En.Dop.Fnc) (b0 : List UInt8) : Option (Spec.D En.Dop.D7 ⟨[.fd .bool], [⟨0, 9, [.fd .str], false⟩]⟩) := Tryd.m31.E.run 3000 Tryd.m31.p.sp ((f, (), ()), ((b0, ()), ()))
theorem Tryd.m31_eq (f : En.Dop.Fnc) (b0 : List UInt8) : Tryd.m31 f b0 =
  some ((decide (f.name = b0), ()), ((b0, ()), ())) := by kernel_rfl

def Tryd.m30_31.p : Pln := ⟨[(2, ⟨[[0, 0, 0, 0, 1, 0, 1], [0, 1, 0, 0, 1, 0, 1], [2, 0, 0, 1, 0, 1], [1, 0], [0, 1, 1]], [0, 1, 7, 8], 1, ⟨[.fd (.sl 4), .fn 31 [(0, 0)], .fd (.int .i64), .fd (.int .i64)], [⟨0, 9, [.fd .str], false⟩]⟩⟩)], 1, ⟨[.fd (.sl 4), .fn 31 [(0, 0)]], [⟨0, 9, [.st 1], false⟩]⟩, ⟨[.fd (.int .i64)], [⟨0, 9, [.fd .str], false⟩]⟩, true, [], []⟩
noncomputable def Tryd.m30_31.E : Env En.Dop.D7 := envOf Tryd.prog 30 Tryd.tb [Tryd.m31.c] Tryd.m30_31.p
theorem Tryd.m30_31.ok : plnOk En.Dop.D7 Tryd.prog 30 Tryd.m30_31.p = true := by kernel_rfl
noncomputable def Tryd.m30_31.c : Ctr En.Dop.D7 := ⟨30, Tryd.m30_31.p.bn, Tryd.m30_31.p.sp, Tryd.m30_31.p.rs, Tryd.m30_31.p.flat, .opt (Tryd.m30_31.E.run 3000 Tryd.m30_31.p.sp)⟩
theorem Tryd.m30_31.holds : Tryd.m30_31.c.Holds Tryd.prog := fun_ctr 3000 Tryd.tbOk (hct_cons Tryd.m31.holds hct_nil) Tryd.m30_31.ok
noncomputable def Tryd.m30_31 (s : List (En.Dop.Fnc)) (b0 : List UInt8) : Option (Spec.D En.Dop.D7 ⟨[.fd (.int .i64)], [⟨0, 9, [.fd .str], false⟩]⟩) := Tryd.m30_31.E.run 3000 Tryd.m30_31.p.sp ((s, (), ()), ((b0, ()), ()))
noncomputable def Tryd.m30_31_2 (s : List (En.Dop.Fnc)) (t7 : Int) (t8 : Int) (b0 : List UInt8) : Option (Spec.D En.Dop.D7 ⟨[.fd (.int .i64)], [⟨0, 9, [.fd .str], false⟩]⟩) := Tryd.m30_31.E.cut 3000 2 ((s, (), t7, t8, ()), ((b0, ()), ()))
theorem Tryd.m30_31_eq (s : List (En.Dop.Fnc)) (b0 : List UInt8) : Tryd.m30_31 s b0 =
  Tryd.m30_31_2 (s) (I s.length) ((0 : Int)) (b0) := by kernel_rfl
theorem Tryd.m30_31_2_eq (s : List (En.Dop.Fnc)) (t7 : Int) (t8 : Int) (b0 : List UInt8) : Tryd.m30_31_2 s t7 t8 b0 =
  if (decide (t8 < t7)) = true then
   if (decide ((0 : Int) ≤ t8 ∧ t8 < I s.length)) = true then
   (Tryd.m31 (@List.getD Dop.Fnc s t8.toNat Dop.d4) (b0)).bind fun y3 =>
    if (y3.fst.fst) = true then
     some ((t8, ()), ((y3.snd.fst.fst, ()), ()))
    else
     if (inR (t8 + (1 : Int))) = true then
     Tryd.m30_31_2 (s) (t7) (t8 + (1 : Int)) (y3.snd.fst.fst)
     else none
   else none
  else
   some (((-1 : Int), ()), ((b0, ()), ())) := Env.cut_eq' (E := Tryd.m30_31.E) (f0 := 3000) (c := 2) (q := ⟨[[0, 0, 0, 0, 1, 0, 1], [0, 1, 0, 0, 1, 0, 1], [2, 0, 0, 1, 0, 1], [1, 0], [0, 1, 1]], [0, 1, 7, 8], 1, ⟨[.fd (.sl 4), .fn 31 [(0, 0)], .fd (.int .i64), .fd (.int .i64)], [⟨0, 9, [.fd .str], false⟩]⟩⟩) (by kernel_rfl) ((s, (), t7, t8, ()), ((b0, ()), ())) (by kernel_rfl) (by kernel_rfl)

def Tryd.m19.p : Pln := ⟨[], 0, ⟨[.st 6, .fd .str], []⟩, ⟨[.fd (.int .i64)], []⟩, true, [], []⟩
noncomputable def Tryd.m19.E : Env En.Dop.D7 := envOf Tryd.prog 19 Tryd.tb [Tryd.m30_31.c] Tryd.m19.p
theorem Tryd.m19.ok : plnOk En.Dop.D7 Tryd.prog 19 Tryd.m19.p = true := by kernel_rfl
noncomputable def Tryd.m19.c : Ctr En.Dop.D7 := ⟨19, Tryd.m19.p.bn, Tryd.m19.p.sp, Tryd.m19.p.rs, Tryd.m19.p.flat, .opt (Tryd.m19.E.run 3000 Tryd.m19.p.sp)⟩
theorem Tryd.m19.holds : Tryd.m19.c.Holds Tryd.prog := fun_ctr 3000 Tryd.tbOk (hct_cons Tryd.m30_31.holds hct_nil) Tryd.m19.ok
noncomputable def Tryd.m19 (u : En.Dop.Unt) (name : List UInt8) : Option (Spec.D En.Dop.D7 ⟨[.fd (.int .i64)], []⟩) := Tryd.m19.E.run 3000 Tryd.m19.p.sp ((u, name, ()), ())
theorem Tryd.m19_eq (u : En.Dop.Unt) (name : List UInt8) : Tryd.m19 u name =
  (Tryd.m30_31 (u.funcs) (name)).bind fun y2 =>
   some ((y2.fst.fst, ()), ()) := by kernel_rfl

def Tryd.m36.p : Pln := ⟨[], 0, ⟨[.fd (.int .i64)], []⟩, ⟨[.fd (.int .i64)], []⟩, true, [], []⟩
noncomputable def Tryd.m36.E : Env En.Dop.D7 := envOf Tryd.prog 36 Tryd.tb [] Tryd.m36.p
theorem Tryd.m36.ok : plnOk En.Dop.D7 Tryd.prog 36 Tryd.m36.p = true := by kernel_rfl
noncomputable def Tryd.m36.c : Ctr En.Dop.D7 := ⟨36, Tryd.m36.p.bn, Tryd.m36.p.sp, Tryd.m36.p.rs, Tryd.m36.p.flat, .opt (Tryd.m36.E.run 3000 Tryd.m36.p.sp)⟩
theorem Tryd.m36.holds : Tryd.m36.c.Holds Tryd.prog := fun_ctr 3000 Tryd.tbOk hct_nil Tryd.m36.ok
noncomputable def Tryd.m36 (n : Int) : Option (Spec.D En.Dop.D7 ⟨[.fd (.int .i64)], []⟩) := Tryd.m36.E.run 3000 Tryd.m36.p.sp ((n, ()), ())
theorem Tryd.m36_eq (n : Int) : Tryd.m36 n =
  if (inR (IntKind.i32.wrap (IntKind.u32.wrap n))) = true then
  some ((IntKind.i32.wrap (IntKind.u32.wrap n), ()), ())
  else none := by kernel_rfl

def Tryd.m23.p : Pln := ⟨[], 0, ⟨[.fd (.int .i64)], []⟩, ⟨[.fd .bool], []⟩, true, [], []⟩
noncomputable def Tryd.m23.E : Env En.Dop.D7 := envOf Tryd.prog 23 Tryd.tb [Tryd.m36.c] Tryd.m23.p
theorem Tryd.m23.ok : plnOk En.Dop.D7 Tryd.prog 23 Tryd.m23.p = true := by kernel_rfl
noncomputable def Tryd.m23.c : Ctr En.Dop.D7 := ⟨23, Tryd.m23.p.bn, Tryd.m23.p.sp, Tryd.m23.p.rs, Tryd.m23.p.flat, .opt (Tryd.m23.E.run 3000 Tryd.m23.p.sp)⟩
theorem Tryd.m23.holds : Tryd.m23.c.Holds Tryd.prog := fun_ctr 3000 Tryd.tbOk (hct_cons Tryd.m36.holds hct_nil) Tryd.m23.ok
noncomputable def Tryd.m23 (n : Int) : Option (Spec.D En.Dop.D7 ⟨[.fd .bool], []⟩) := Tryd.m23.E.run 3000 Tryd.m23.p.sp ((n, ()), ())
theorem Tryd.m23_eq (n : Int) : Tryd.m23 n =
  (Tryd.m36 (n)).bind fun y2 =>
   some ((decide (y2.fst.fst = n), ()), ()) := by kernel_rfl

def Tryd.m43.p : Pln := ⟨[(9, ⟨[[0, 0, 0, 1, 1, 0, 1, 0, 1], [0, 1, 0, 1, 1, 0, 1, 0, 1], [0, 1, 1, 1, 0, 1, 0, 1], [1, 0], [0, 1, 1]], [4], 0, ⟨[.fd (.int .i64)], []⟩⟩)], 0, ⟨[.fd (.int .i64)], []⟩, ⟨[.fd .bool, .fd .bool], []⟩, true, [], []⟩
noncomputable def Tryd.m43.E : Env En.Dop.D7 := envOf Tryd.prog 43 Tryd.tb [] Tryd.m43.p
theorem Tryd.m43.ok : plnOk En.Dop.D7 Tryd.prog 43 Tryd.m43.p = true := by kernel_rfl
noncomputable def Tryd.m43.c : Ctr En.Dop.D7 := ⟨43, Tryd.m43.p.bn, Tryd.m43.p.sp, Tryd.m43.p.rs, Tryd.m43.p.flat, .opt (Tryd.m43.E.run 3000 Tryd.m43.p.sp)⟩
theorem Tryd.m43.holds : Tryd.m43.c.Holds Tryd.prog := fun_ctr 3000 Tryd.tbOk hct_nil Tryd.m43.ok
noncomputable def Tryd.m43 (kind : Int) : Option (Spec.D En.Dop.D7 ⟨[.fd .bool, .fd .bool], []⟩) := Tryd.m43.E.run 3000 Tryd.m43.p.sp ((kind, ()), ())
noncomputable def Tryd.m43_9 (t4 : Int) : Option (Spec.D En.Dop.D7 ⟨[.fd .bool, .fd .bool], []⟩) := Tryd.m43.E.cut 3000 9 ((t4, ()), ())
theorem Tryd.m43_eq (kind : Int) : Tryd.m43 kind =
  if (decide (kind = (2 : Int))) = true then
   if (decide (kind = (2 : Int))) = true then
    some ((true, (false, ())), ())
   else
    Tryd.m43_9 (kind)
  else
   if (decide (kind = (4 : Int))) = true then
    if (decide (kind = (4 : Int))) = true then
     some ((true, (false, ())), ())
    else
     Tryd.m43_9 (kind)
   else
    if (decide (kind = (6 : Int))) = true then
     if (decide (kind = (6 : Int))) = true then
      some ((true, (false, ())), ())
     else
      Tryd.m43_9 (kind)
    else
     if (decide (kind = (10 : Int))) = true then
      if (decide (kind = (10 : Int))) = true then
       some ((true, (false, ())), ())
      else
       Tryd.m43_9 (kind)
     else
      if (decide (kind = (12 : Int))) = true then
       if (decide (kind = (12 : Int))) = true then
        some ((true, (false, ())), ())
       else
        Tryd.m43_9 (kind)
      else
       if (decide (kind = (13 : Int))) = true then
        some ((true, (false, ())), ())
       else
        Tryd.m43_9 (kind) := by kernel_rfl
theorem Tryd.m43_9_eq (t4 : Int) : Tryd.m43_9 t4 =
  if (decide (t4 = (3 : Int))) = true then
   if (decide (t4 = (3 : Int))) = true then
    some ((true, (true, ())), ())
   else
    some ((false, (false, ())), ())
  else
   if (decide (t4 = (7 : Int))) = true then
    some ((true, (true, ())), ())
   else
    some ((false, (false, ())), ()) := Env.cut_eq' (E := Tryd.m43.E) (f0 := 3000) (c := 9) (q := ⟨[[0, 0, 0, 1, 1, 0, 1, 0, 1], [0, 1, 0, 1, 1, 0, 1, 0, 1], [0, 1, 1, 1, 0, 1, 0, 1], [1, 0], [0, 1, 1]], [4], 0, ⟨[.fd (.int .i64)], []⟩⟩) (by kernel_rfl) ((t4, ()), ()) (by kernel_rfl) (by kernel_rfl)

def Tryd.m25.p : Pln := ⟨[], 0, ⟨[.fd (.int .i64)], []⟩, ⟨[.fd .bool], []⟩, true, [], []⟩
noncomputable def Tryd.m25.E : Env En.Dop.D7 := envOf Tryd.prog 25 Tryd.tb [] Tryd.m25.p
theorem Tryd.m25.ok : plnOk En.Dop.D7 Tryd.prog 25 Tryd.m25.p = true := by kernel_rfl
noncomputable def Tryd.m25.c : Ctr En.Dop.D7 := ⟨25, Tryd.m25.p.bn, Tryd.m25.p.sp, Tryd.m25.p.rs, Tryd.m25.p.flat, .opt (Tryd.m25.E.run 3000 Tryd.m25.p.sp)⟩
theorem Tryd.m25.holds : Tryd.m25.c.Holds Tryd.prog := fun_ctr 3000 Tryd.tbOk hct_nil Tryd.m25.ok
noncomputable def Tryd.m25 (kind : Int) : Option (Spec.D En.Dop.D7 ⟨[.fd .bool], []⟩) := Tryd.m25.E.run 3000 Tryd.m25.p.sp ((kind, ()), ())
theorem Tryd.m25_eq (kind : Int) : Tryd.m25 kind =
  if (decide ((1 : Int) ≤ kind)) = true then
   if (decide (kind ≤ (6 : Int))) = true then
    some ((true, ()), ())
   else
    if (decide (kind = (8 : Int))) = true then
     some ((true, ()), ())
    else
     some ((decide (kind = (9 : Int)), ()), ())
  else
   if (decide (kind = (8 : Int))) = true then
    some ((true, ()), ())
   else
    some ((decide (kind = (9 : Int)), ()), ()) := by kernel_rfl

def Tryd.m47.p : Pln := ⟨[(9, ⟨[[0, 0, 0, 1, 1, 1, 1, 1, 1], [0, 1, 0, 1, 1, 1, 1, 1, 1], [0, 1, 1, 1, 1, 1, 1, 1]], [1, 2, 5], 3, ⟨[.al 0 0, .al 1 0, .al 2 0], [⟨0, 30, [.st 3], false⟩, ⟨1, 30, [.st 3], false⟩, ⟨2, 30, [.st 3], false⟩]⟩⟩), (16, ⟨[[0, 0, 1, 1, 1, 1, 0, 1, 0, 1, 1, 1, 1, 1, 1], [0, 1, 1, 1, 1, 1, 0, 1, 0, 1, 1, 1, 1, 1, 1], [1, 0], [0, 1, 1, 1, 1, 1, 1, 1]], [1, 2, 5, 25], 3, ⟨[.al 0 0, .al 1 0, .al 2 0, .fd (.int .i64)], [⟨0, 30, [.st 3], false⟩, ⟨1, 30, [.st 3], false⟩, ⟨2, 30, [.st 3], false⟩]⟩⟩), (18, ⟨[[0, 0, 0, 0, 1, 0, 0, 1, 1, 1, 1, 1, 0, 1, 0, 1, 1, 1, 1, 1, 1], [0, 1, 0, 0, 1, 0, 0, 1, 1, 1, 1, 1, 0, 1, 0, 1, 1, 1, 1, 1, 1], [2, 0, 0, 1, 0, 0, 1, 1, 1, 1, 1, 0, 1, 0, 1, 1, 1, 1, 1, 1], [1, 1], [0, 1, 0, 1, 1, 1, 1, 1, 0, 1, 0, 1, 1, 1, 1, 1, 1], [1, 0], [0, 1, 1, 1, 1, 1, 1, 1]], [1, 2, 5, 39, 40], 3, ⟨[.al 0 0, .al 1 0, .al 2 0, .fd (.int .i64), .fd (.int .i64)], [⟨0, 30, [.st 3], false⟩, ⟨1, 30, [.st 3], false⟩, ⟨2, 30, [.st 3], false⟩]⟩⟩)], 0, ⟨[.st 3], []⟩, ⟨[.st 3], []⟩, true, [], []⟩
noncomputable def Tryd.m47.E : Env En.Dop.D7 := envOf Tryd.prog 47 Tryd.tb [Tryd.m43.c, Tryd.m9.c, Tryd.m25.c] Tryd.m47.p
theorem Tryd.m47.ok : plnOk En.Dop.D7 Tryd.prog 47 Tryd.m47.p = true := by kernel_rfl
noncomputable def Tryd.m47.c : Ctr En.Dop.D7 := ⟨47, Tryd.m47.p.bn, Tryd.m47.p.sp, Tryd.m47.p.rs, Tryd.m47.p.flat, .opt (Tryd.m47.E.run 3000 Tryd.m47.p.sp)⟩
theorem Tryd.m47.holds : Tryd.m47.c.Holds Tryd.prog := fun_ctr 3000 Tryd.tbOk (hct_cons Tryd.m43.holds (hct_cons Tryd.m9.holds (hct_cons Tryd.m25.holds hct_nil))) Tryd.m47.ok
noncomputable def Tryd.m47 (i : En.Dop.Ins) : Option (Spec.D En.Dop.D7 ⟨[.st 3], []⟩) := Tryd.m47.E.run 3000 Tryd.m47.p.sp ((i, ()), ())
noncomputable def Tryd.m47_9 (b0 : En.Dop.Ins) (b1 : En.Dop.Ins) (b2 : En.Dop.Ins) : Option (Spec.D En.Dop.D7 ⟨[.st 3], []⟩) := Tryd.m47.E.cut 3000 9 (((), (), (), ()), ((b0, ()), (b1, ()), (b2, ()), ()))
noncomputable def Tryd.m47_16 (t25 : Int) (b0 : En.Dop.Ins) (b1 : En.Dop.Ins) (b2 : En.Dop.Ins) : Option (Spec.D En.Dop.D7 ⟨[.st 3], []⟩) := Tryd.m47.E.cut 3000 16 (((), (), (), t25, ()), ((b0, ()), (b1, ()), (b2, ()), ()))
noncomputable def Tryd.m47_18 (t39 : Int) (t40 : Int) (b0 : En.Dop.Ins) (b1 : En.Dop.Ins) (b2 : En.Dop.Ins) : Option (Spec.D En.Dop.D7 ⟨[.st 3], []⟩) := Tryd.m47.E.cut 3000 18 (((), (), (), t39, t40, ()), ((b0, ()), (b1, ()), (b2, ()), ()))
theorem Tryd.m47_eq (i : En.Dop.Ins) : Tryd.m47 i =
  (Tryd.m43 (i.kind)).bind fun y2 =>
   (Tryd.m9 (i.kind)).bind fun y3 =>
    (Tryd.m25 (i.kind)).bind fun y4 =>
     if (y4.fst.fst) = true then
      if (y2.fst.fst) = true then
       if (y2.fst.snd.fst) = true then
        Tryd.m47_9 (Dop.Ins.mk i.kind i.op (-1 : Int) (0 : Int) (0 : Int) i.n i.text i.args0 i.args1 i.args2 i.args3 i.args4 i.args5 i.to_ i.else_) (Dop.Ins.mk (0 : Int) (0 : Int) (0 : Int) (0 : Int) (0 : Int) (0 : Int) (@List.nil UInt8) (0 : Int) (0 : Int) (0 : Int) (0 : Int) (0 : Int) (0 : Int) (0 : Int) (0 : Int)) (y3.fst.fst)
       else
        Tryd.m47_9 (Dop.Ins.mk i.kind i.op (-1 : Int) (0 : Int) i.b i.n i.text i.args0 i.args1 i.args2 i.args3 i.args4 i.args5 i.to_ i.else_) (Dop.Ins.mk (0 : Int) (0 : Int) (0 : Int) (0 : Int) (0 : Int) (0 : Int) (@List.nil UInt8) (0 : Int) (0 : Int) (0 : Int) (0 : Int) (0 : Int) (0 : Int) (0 : Int) (0 : Int)) (y3.fst.fst)
      else
       if (y2.fst.snd.fst) = true then
        Tryd.m47_9 (Dop.Ins.mk i.kind i.op (-1 : Int) i.a (0 : Int) i.n i.text i.args0 i.args1 i.args2 i.args3 i.args4 i.args5 i.to_ i.else_) (Dop.Ins.mk (0 : Int) (0 : Int) (0 : Int) (0 : Int) (0 : Int) (0 : Int) (@List.nil UInt8) (0 : Int) (0 : Int) (0 : Int) (0 : Int) (0 : Int) (0 : Int) (0 : Int) (0 : Int)) (y3.fst.fst)
       else
        Tryd.m47_9 (Dop.Ins.mk i.kind i.op (-1 : Int) i.a i.b i.n i.text i.args0 i.args1 i.args2 i.args3 i.args4 i.args5 i.to_ i.else_) (Dop.Ins.mk (0 : Int) (0 : Int) (0 : Int) (0 : Int) (0 : Int) (0 : Int) (@List.nil UInt8) (0 : Int) (0 : Int) (0 : Int) (0 : Int) (0 : Int) (0 : Int) (0 : Int) (0 : Int)) (y3.fst.fst)
     else
      if (y2.fst.fst) = true then
       if (y2.fst.snd.fst) = true then
        Tryd.m47_9 (Dop.Ins.mk i.kind i.op i.dst (0 : Int) (0 : Int) i.n i.text i.args0 i.args1 i.args2 i.args3 i.args4 i.args5 i.to_ i.else_) (Dop.Ins.mk (0 : Int) (0 : Int) (0 : Int) (0 : Int) (0 : Int) (0 : Int) (@List.nil UInt8) (0 : Int) (0 : Int) (0 : Int) (0 : Int) (0 : Int) (0 : Int) (0 : Int) (0 : Int)) (y3.fst.fst)
       else
        Tryd.m47_9 (Dop.Ins.mk i.kind i.op i.dst (0 : Int) i.b i.n i.text i.args0 i.args1 i.args2 i.args3 i.args4 i.args5 i.to_ i.else_) (Dop.Ins.mk (0 : Int) (0 : Int) (0 : Int) (0 : Int) (0 : Int) (0 : Int) (@List.nil UInt8) (0 : Int) (0 : Int) (0 : Int) (0 : Int) (0 : Int) (0 : Int) (0 : Int) (0 : Int)) (y3.fst.fst)
      else
       if (y2.fst.snd.fst) = true then
        Tryd.m47_9 (Dop.Ins.mk i.kind i.op i.dst i.a (0 : Int) i.n i.text i.args0 i.args1 i.args2 i.args3 i.args4 i.args5 i.to_ i.else_) (Dop.Ins.mk (0 : Int) (0 : Int) (0 : Int) (0 : Int) (0 : Int) (0 : Int) (@List.nil UInt8) (0 : Int) (0 : Int) (0 : Int) (0 : Int) (0 : Int) (0 : Int) (0 : Int) (0 : Int)) (y3.fst.fst)
       else
        Tryd.m47_9 (i) (Dop.Ins.mk (0 : Int) (0 : Int) (0 : Int) (0 : Int) (0 : Int) (0 : Int) (@List.nil UInt8) (0 : Int) (0 : Int) (0 : Int) (0 : Int) (0 : Int) (0 : Int) (0 : Int) (0 : Int)) (y3.fst.fst) := by kernel_rfl
theorem Tryd.m47_9_eq (b0 : En.Dop.Ins) (b1 : En.Dop.Ins) (b2 : En.Dop.Ins) : Tryd.m47_9 b0 b1 b2 =
  if (decide (b0.kind = (1 : Int))) = true then
   if (decide (b0.kind = (1 : Int))) = true then
    if (!eqSs (List.take (15 : Nat) (List.drop (0 : Nat) (spl (SV.v (Value.int IntKind.i64 b0.kind) :: SV.v (Value.int IntKind.i64 b0.op) :: SV.v (Value.int IntKind.i64 b0.dst) :: SV.v (Value.int IntKind.i64 b0.a) :: SV.v (Value.int IntKind.i64 b0.b) :: SV.v (Value.int IntKind.i64 b0.n) :: SV.v (Value.string (ByteArray.mk (Array.mk b0.text))) :: SV.v (Value.int IntKind.i64 b0.args0) :: SV.v (Value.int IntKind.i64 b0.args1) :: SV.v (Value.int IntKind.i64 b0.args2) :: SV.v (Value.int IntKind.i64 b0.args3) :: SV.v (Value.int IntKind.i64 b0.args4) :: SV.v (Value.int IntKind.i64 b0.args5) :: SV.v (Value.int IntKind.i64 b0.to_) :: SV.v (Value.int IntKind.i64 b0.else_) :: @List.nil SV ++ @List.nil SV) ((0 : Nat) + (5 : Nat)) (SV.v (Value.int IntKind.i64 (0 : Int)) :: @List.nil SV)))) (List.take (15 : Nat) (List.drop (0 : Nat) (SV.v (Value.int IntKind.i64 b2.kind) :: SV.v (Value.int IntKind.i64 b2.op) :: SV.v (Value.int IntKind.i64 b2.dst) :: SV.v (Value.int IntKind.i64 b2.a) :: SV.v (Value.int IntKind.i64 b2.b) :: SV.v (Value.int IntKind.i64 b2.n) :: SV.v (Value.string (ByteArray.mk (Array.mk b2.text))) :: SV.v (Value.int IntKind.i64 b2.args0) :: SV.v (Value.int IntKind.i64 b2.args1) :: SV.v (Value.int IntKind.i64 b2.args2) :: SV.v (Value.int IntKind.i64 b2.args3) :: SV.v (Value.int IntKind.i64 b2.args4) :: SV.v (Value.int IntKind.i64 b2.args5) :: SV.v (Value.int IntKind.i64 b2.to_) :: SV.v (Value.int IntKind.i64 b2.else_) :: @List.nil SV ++ @List.nil SV)))) = true then
     some ((Dop.Ins.mk (0 : Int) b2.op b2.dst b2.a b2.b b2.n b2.text b2.args0 b2.args1 b2.args2 b2.args3 b2.args4 b2.args5 b2.to_ b2.else_, ()), ())
    else
     some ((b2, ()), ())
   else
    if (decide (b0.kind = (2 : Int))) = true then
     if (decide (b0.kind = (2 : Int))) = true then
      if (!eqSs (List.take (15 : Nat) (List.drop (0 : Nat) (spl (SV.v (Value.int IntKind.i64 b0.kind) :: SV.v (Value.int IntKind.i64 b0.op) :: SV.v (Value.int IntKind.i64 b0.dst) :: SV.v (Value.int IntKind.i64 b0.a) :: SV.v (Value.int IntKind.i64 b0.b) :: SV.v (Value.int IntKind.i64 b0.n) :: SV.v (Value.string (ByteArray.mk (Array.mk b0.text))) :: SV.v (Value.int IntKind.i64 b0.args0) :: SV.v (Value.int IntKind.i64 b0.args1) :: SV.v (Value.int IntKind.i64 b0.args2) :: SV.v (Value.int IntKind.i64 b0.args3) :: SV.v (Value.int IntKind.i64 b0.args4) :: SV.v (Value.int IntKind.i64 b0.args5) :: SV.v (Value.int IntKind.i64 b0.to_) :: SV.v (Value.int IntKind.i64 b0.else_) :: @List.nil SV ++ @List.nil SV) ((0 : Nat) + (1 : Nat)) (SV.v (Value.int IntKind.i64 (0 : Int)) :: @List.nil SV)))) (List.take (15 : Nat) (List.drop (0 : Nat) (SV.v (Value.int IntKind.i64 b2.kind) :: SV.v (Value.int IntKind.i64 b2.op) :: SV.v (Value.int IntKind.i64 b2.dst) :: SV.v (Value.int IntKind.i64 b2.a) :: SV.v (Value.int IntKind.i64 b2.b) :: SV.v (Value.int IntKind.i64 b2.n) :: SV.v (Value.string (ByteArray.mk (Array.mk b2.text))) :: SV.v (Value.int IntKind.i64 b2.args0) :: SV.v (Value.int IntKind.i64 b2.args1) :: SV.v (Value.int IntKind.i64 b2.args2) :: SV.v (Value.int IntKind.i64 b2.args3) :: SV.v (Value.int IntKind.i64 b2.args4) :: SV.v (Value.int IntKind.i64 b2.args5) :: SV.v (Value.int IntKind.i64 b2.to_) :: SV.v (Value.int IntKind.i64 b2.else_) :: @List.nil SV ++ @List.nil SV)))) = true then
       some ((Dop.Ins.mk (0 : Int) b2.op b2.dst b2.a b2.b b2.n b2.text b2.args0 b2.args1 b2.args2 b2.args3 b2.args4 b2.args5 b2.to_ b2.else_, ()), ())
      else
       some ((b2, ()), ())
     else
      Tryd.m47_16 (b0.kind) (b0) (b1) (b2)
    else
     if (decide (b0.kind = (3 : Int))) = true then
      if (!eqSs (List.take (15 : Nat) (List.drop (0 : Nat) (spl (SV.v (Value.int IntKind.i64 b0.kind) :: SV.v (Value.int IntKind.i64 b0.op) :: SV.v (Value.int IntKind.i64 b0.dst) :: SV.v (Value.int IntKind.i64 b0.a) :: SV.v (Value.int IntKind.i64 b0.b) :: SV.v (Value.int IntKind.i64 b0.n) :: SV.v (Value.string (ByteArray.mk (Array.mk b0.text))) :: SV.v (Value.int IntKind.i64 b0.args0) :: SV.v (Value.int IntKind.i64 b0.args1) :: SV.v (Value.int IntKind.i64 b0.args2) :: SV.v (Value.int IntKind.i64 b0.args3) :: SV.v (Value.int IntKind.i64 b0.args4) :: SV.v (Value.int IntKind.i64 b0.args5) :: SV.v (Value.int IntKind.i64 b0.to_) :: SV.v (Value.int IntKind.i64 b0.else_) :: @List.nil SV ++ @List.nil SV) ((0 : Nat) + (1 : Nat)) (SV.v (Value.int IntKind.i64 (0 : Int)) :: @List.nil SV)))) (List.take (15 : Nat) (List.drop (0 : Nat) (SV.v (Value.int IntKind.i64 b2.kind) :: SV.v (Value.int IntKind.i64 b2.op) :: SV.v (Value.int IntKind.i64 b2.dst) :: SV.v (Value.int IntKind.i64 b2.a) :: SV.v (Value.int IntKind.i64 b2.b) :: SV.v (Value.int IntKind.i64 b2.n) :: SV.v (Value.string (ByteArray.mk (Array.mk b2.text))) :: SV.v (Value.int IntKind.i64 b2.args0) :: SV.v (Value.int IntKind.i64 b2.args1) :: SV.v (Value.int IntKind.i64 b2.args2) :: SV.v (Value.int IntKind.i64 b2.args3) :: SV.v (Value.int IntKind.i64 b2.args4) :: SV.v (Value.int IntKind.i64 b2.args5) :: SV.v (Value.int IntKind.i64 b2.to_) :: SV.v (Value.int IntKind.i64 b2.else_) :: @List.nil SV ++ @List.nil SV)))) = true then
       some ((Dop.Ins.mk (0 : Int) b2.op b2.dst b2.a b2.b b2.n b2.text b2.args0 b2.args1 b2.args2 b2.args3 b2.args4 b2.args5 b2.to_ b2.else_, ()), ())
      else
       some ((b2, ()), ())
     else
      Tryd.m47_16 (b0.kind) (b0) (b1) (b2)
  else
   if (decide (b0.kind = (5 : Int))) = true then
    if (!eqSs (List.take (15 : Nat) (List.drop (0 : Nat) (spl (SV.v (Value.int IntKind.i64 b0.kind) :: SV.v (Value.int IntKind.i64 b0.op) :: SV.v (Value.int IntKind.i64 b0.dst) :: SV.v (Value.int IntKind.i64 b0.a) :: SV.v (Value.int IntKind.i64 b0.b) :: SV.v (Value.int IntKind.i64 b0.n) :: SV.v (Value.string (ByteArray.mk (Array.mk b0.text))) :: SV.v (Value.int IntKind.i64 b0.args0) :: SV.v (Value.int IntKind.i64 b0.args1) :: SV.v (Value.int IntKind.i64 b0.args2) :: SV.v (Value.int IntKind.i64 b0.args3) :: SV.v (Value.int IntKind.i64 b0.args4) :: SV.v (Value.int IntKind.i64 b0.args5) :: SV.v (Value.int IntKind.i64 b0.to_) :: SV.v (Value.int IntKind.i64 b0.else_) :: @List.nil SV ++ @List.nil SV) ((0 : Nat) + (5 : Nat)) (SV.v (Value.int IntKind.i64 (0 : Int)) :: @List.nil SV)))) (List.take (15 : Nat) (List.drop (0 : Nat) (SV.v (Value.int IntKind.i64 b2.kind) :: SV.v (Value.int IntKind.i64 b2.op) :: SV.v (Value.int IntKind.i64 b2.dst) :: SV.v (Value.int IntKind.i64 b2.a) :: SV.v (Value.int IntKind.i64 b2.b) :: SV.v (Value.int IntKind.i64 b2.n) :: SV.v (Value.string (ByteArray.mk (Array.mk b2.text))) :: SV.v (Value.int IntKind.i64 b2.args0) :: SV.v (Value.int IntKind.i64 b2.args1) :: SV.v (Value.int IntKind.i64 b2.args2) :: SV.v (Value.int IntKind.i64 b2.args3) :: SV.v (Value.int IntKind.i64 b2.args4) :: SV.v (Value.int IntKind.i64 b2.args5) :: SV.v (Value.int IntKind.i64 b2.to_) :: SV.v (Value.int IntKind.i64 b2.else_) :: @List.nil SV ++ @List.nil SV)))) = true then
     some ((Dop.Ins.mk (0 : Int) b2.op b2.dst b2.a b2.b b2.n b2.text b2.args0 b2.args1 b2.args2 b2.args3 b2.args4 b2.args5 b2.to_ b2.else_, ()), ())
    else
     some ((b2, ()), ())
   else
    if (decide (b0.kind = (2 : Int))) = true then
     if (decide (b0.kind = (2 : Int))) = true then
      if (!eqSs (List.take (15 : Nat) (List.drop (0 : Nat) (spl (SV.v (Value.int IntKind.i64 b0.kind) :: SV.v (Value.int IntKind.i64 b0.op) :: SV.v (Value.int IntKind.i64 b0.dst) :: SV.v (Value.int IntKind.i64 b0.a) :: SV.v (Value.int IntKind.i64 b0.b) :: SV.v (Value.int IntKind.i64 b0.n) :: SV.v (Value.string (ByteArray.mk (Array.mk b0.text))) :: SV.v (Value.int IntKind.i64 b0.args0) :: SV.v (Value.int IntKind.i64 b0.args1) :: SV.v (Value.int IntKind.i64 b0.args2) :: SV.v (Value.int IntKind.i64 b0.args3) :: SV.v (Value.int IntKind.i64 b0.args4) :: SV.v (Value.int IntKind.i64 b0.args5) :: SV.v (Value.int IntKind.i64 b0.to_) :: SV.v (Value.int IntKind.i64 b0.else_) :: @List.nil SV ++ @List.nil SV) ((0 : Nat) + (1 : Nat)) (SV.v (Value.int IntKind.i64 (0 : Int)) :: @List.nil SV)))) (List.take (15 : Nat) (List.drop (0 : Nat) (SV.v (Value.int IntKind.i64 b2.kind) :: SV.v (Value.int IntKind.i64 b2.op) :: SV.v (Value.int IntKind.i64 b2.dst) :: SV.v (Value.int IntKind.i64 b2.a) :: SV.v (Value.int IntKind.i64 b2.b) :: SV.v (Value.int IntKind.i64 b2.n) :: SV.v (Value.string (ByteArray.mk (Array.mk b2.text))) :: SV.v (Value.int IntKind.i64 b2.args0) :: SV.v (Value.int IntKind.i64 b2.args1) :: SV.v (Value.int IntKind.i64 b2.args2) :: SV.v (Value.int IntKind.i64 b2.args3) :: SV.v (Value.int IntKind.i64 b2.args4) :: SV.v (Value.int IntKind.i64 b2.args5) :: SV.v (Value.int IntKind.i64 b2.to_) :: SV.v (Value.int IntKind.i64 b2.else_) :: @List.nil SV ++ @List.nil SV)))) = true then
       some ((Dop.Ins.mk (0 : Int) b2.op b2.dst b2.a b2.b b2.n b2.text b2.args0 b2.args1 b2.args2 b2.args3 b2.args4 b2.args5 b2.to_ b2.else_, ()), ())
      else
       some ((b2, ()), ())
     else
      Tryd.m47_16 (b0.kind) (b0) (b1) (b2)
    else
     if (decide (b0.kind = (3 : Int))) = true then
      if (!eqSs (List.take (15 : Nat) (List.drop (0 : Nat) (spl (SV.v (Value.int IntKind.i64 b0.kind) :: SV.v (Value.int IntKind.i64 b0.op) :: SV.v (Value.int IntKind.i64 b0.dst) :: SV.v (Value.int IntKind.i64 b0.a) :: SV.v (Value.int IntKind.i64 b0.b) :: SV.v (Value.int IntKind.i64 b0.n) :: SV.v (Value.string (ByteArray.mk (Array.mk b0.text))) :: SV.v (Value.int IntKind.i64 b0.args0) :: SV.v (Value.int IntKind.i64 b0.args1) :: SV.v (Value.int IntKind.i64 b0.args2) :: SV.v (Value.int IntKind.i64 b0.args3) :: SV.v (Value.int IntKind.i64 b0.args4) :: SV.v (Value.int IntKind.i64 b0.args5) :: SV.v (Value.int IntKind.i64 b0.to_) :: SV.v (Value.int IntKind.i64 b0.else_) :: @List.nil SV ++ @List.nil SV) ((0 : Nat) + (1 : Nat)) (SV.v (Value.int IntKind.i64 (0 : Int)) :: @List.nil SV)))) (List.take (15 : Nat) (List.drop (0 : Nat) (SV.v (Value.int IntKind.i64 b2.kind) :: SV.v (Value.int IntKind.i64 b2.op) :: SV.v (Value.int IntKind.i64 b2.dst) :: SV.v (Value.int IntKind.i64 b2.a) :: SV.v (Value.int IntKind.i64 b2.b) :: SV.v (Value.int IntKind.i64 b2.n) :: SV.v (Value.string (ByteArray.mk (Array.mk b2.text))) :: SV.v (Value.int IntKind.i64 b2.args0) :: SV.v (Value.int IntKind.i64 b2.args1) :: SV.v (Value.int IntKind.i64 b2.args2) :: SV.v (Value.int IntKind.i64 b2.args3) :: SV.v (Value.int IntKind.i64 b2.args4) :: SV.v (Value.int IntKind.i64 b2.args5) :: SV.v (Value.int IntKind.i64 b2.to_) :: SV.v (Value.int IntKind.i64 b2.else_) :: @List.nil SV ++ @List.nil SV)))) = true then
       some ((Dop.Ins.mk (0 : Int) b2.op b2.dst b2.a b2.b b2.n b2.text b2.args0 b2.args1 b2.args2 b2.args3 b2.args4 b2.args5 b2.to_ b2.else_, ()), ())
      else
       some ((b2, ()), ())
     else
      Tryd.m47_16 (b0.kind) (b0) (b1) (b2) := Env.cut_eq' (E := Tryd.m47.E) (f0 := 3000) (c := 9) (q := ⟨[[0, 0, 0, 1, 1, 1, 1, 1, 1], [0, 1, 0, 1, 1, 1, 1, 1, 1], [0, 1, 1, 1, 1, 1, 1, 1]], [1, 2, 5], 3, ⟨[.al 0 0, .al 1 0, .al 2 0], [⟨0, 30, [.st 3], false⟩, ⟨1, 30, [.st 3], false⟩, ⟨2, 30, [.st 3], false⟩]⟩⟩) (by kernel_rfl) (((), (), (), ()), ((b0, ()), (b1, ()), (b2, ()), ())) (by kernel_rfl) (by kernel_rfl)
theorem Tryd.m47_16_eq (t25 : Int) (b0 : En.Dop.Ins) (b1 : En.Dop.Ins) (b2 : En.Dop.Ins) : Tryd.m47_16 t25 b0 b1 b2 =
  if (decide (t25 = (8 : Int))) = true then
   Tryd.m47_18 (if (6 : Int) < if b0.n < (0 : Int) then (0 : Int) else b0.n then (6 : Int) else if b0.n < (0 : Int) then (0 : Int) else b0.n) ((0 : Int)) (b0) (b1) (b2)
  else
   if (decide (t25 = (11 : Int))) = true then
    if (!eqSs (List.take (15 : Nat) (List.drop (0 : Nat) (spl (SV.v (Value.int IntKind.i64 b0.kind) :: SV.v (Value.int IntKind.i64 b0.op) :: SV.v (Value.int IntKind.i64 b0.dst) :: SV.v (Value.int IntKind.i64 b0.a) :: SV.v (Value.int IntKind.i64 b0.b) :: SV.v (Value.int IntKind.i64 b0.n) :: SV.v (Value.string (ByteArray.mk (Array.mk b0.text))) :: SV.v (Value.int IntKind.i64 b0.args0) :: SV.v (Value.int IntKind.i64 b0.args1) :: SV.v (Value.int IntKind.i64 b0.args2) :: SV.v (Value.int IntKind.i64 b0.args3) :: SV.v (Value.int IntKind.i64 b0.args4) :: SV.v (Value.int IntKind.i64 b0.args5) :: SV.v (Value.int IntKind.i64 b0.to_) :: SV.v (Value.int IntKind.i64 b0.else_) :: @List.nil SV ++ @List.nil SV) ((0 : Nat) + (13 : Nat)) (SV.v (Value.int IntKind.i64 (0 : Int)) :: @List.nil SV)))) (List.take (15 : Nat) (List.drop (0 : Nat) (SV.v (Value.int IntKind.i64 b2.kind) :: SV.v (Value.int IntKind.i64 b2.op) :: SV.v (Value.int IntKind.i64 b2.dst) :: SV.v (Value.int IntKind.i64 b2.a) :: SV.v (Value.int IntKind.i64 b2.b) :: SV.v (Value.int IntKind.i64 b2.n) :: SV.v (Value.string (ByteArray.mk (Array.mk b2.text))) :: SV.v (Value.int IntKind.i64 b2.args0) :: SV.v (Value.int IntKind.i64 b2.args1) :: SV.v (Value.int IntKind.i64 b2.args2) :: SV.v (Value.int IntKind.i64 b2.args3) :: SV.v (Value.int IntKind.i64 b2.args4) :: SV.v (Value.int IntKind.i64 b2.args5) :: SV.v (Value.int IntKind.i64 b2.to_) :: SV.v (Value.int IntKind.i64 b2.else_) :: @List.nil SV ++ @List.nil SV)))) = true then
     some ((Dop.Ins.mk (0 : Int) b2.op b2.dst b2.a b2.b b2.n b2.text b2.args0 b2.args1 b2.args2 b2.args3 b2.args4 b2.args5 b2.to_ b2.else_, ()), ())
    else
     some ((b2, ()), ())
   else
    if (decide (t25 = (12 : Int))) = true then
     if (!eqSs (List.take (15 : Nat) (List.drop (0 : Nat) (spl (spl (SV.v (Value.int IntKind.i64 b0.kind) :: SV.v (Value.int IntKind.i64 b0.op) :: SV.v (Value.int IntKind.i64 b0.dst) :: SV.v (Value.int IntKind.i64 b0.a) :: SV.v (Value.int IntKind.i64 b0.b) :: SV.v (Value.int IntKind.i64 b0.n) :: SV.v (Value.string (ByteArray.mk (Array.mk b0.text))) :: SV.v (Value.int IntKind.i64 b0.args0) :: SV.v (Value.int IntKind.i64 b0.args1) :: SV.v (Value.int IntKind.i64 b0.args2) :: SV.v (Value.int IntKind.i64 b0.args3) :: SV.v (Value.int IntKind.i64 b0.args4) :: SV.v (Value.int IntKind.i64 b0.args5) :: SV.v (Value.int IntKind.i64 b0.to_) :: SV.v (Value.int IntKind.i64 b0.else_) :: @List.nil SV ++ @List.nil SV) ((0 : Nat) + (13 : Nat)) (SV.v (Value.int IntKind.i64 (0 : Int)) :: @List.nil SV)) ((0 : Nat) + (14 : Nat)) (SV.v (Value.int IntKind.i64 (-1 : Int)) :: @List.nil SV)))) (List.take (15 : Nat) (List.drop (0 : Nat) (SV.v (Value.int IntKind.i64 b2.kind) :: SV.v (Value.int IntKind.i64 b2.op) :: SV.v (Value.int IntKind.i64 b2.dst) :: SV.v (Value.int IntKind.i64 b2.a) :: SV.v (Value.int IntKind.i64 b2.b) :: SV.v (Value.int IntKind.i64 b2.n) :: SV.v (Value.string (ByteArray.mk (Array.mk b2.text))) :: SV.v (Value.int IntKind.i64 b2.args0) :: SV.v (Value.int IntKind.i64 b2.args1) :: SV.v (Value.int IntKind.i64 b2.args2) :: SV.v (Value.int IntKind.i64 b2.args3) :: SV.v (Value.int IntKind.i64 b2.args4) :: SV.v (Value.int IntKind.i64 b2.args5) :: SV.v (Value.int IntKind.i64 b2.to_) :: SV.v (Value.int IntKind.i64 b2.else_) :: @List.nil SV ++ @List.nil SV)))) = true then
      some ((Dop.Ins.mk (0 : Int) b2.op b2.dst b2.a b2.b b2.n b2.text b2.args0 b2.args1 b2.args2 b2.args3 b2.args4 b2.args5 b2.to_ b2.else_, ()), ())
     else
      some ((b2, ()), ())
    else
     if (!eqSs (List.take (15 : Nat) (List.drop (0 : Nat) (SV.v (Value.int IntKind.i64 b0.kind) :: SV.v (Value.int IntKind.i64 b0.op) :: SV.v (Value.int IntKind.i64 b0.dst) :: SV.v (Value.int IntKind.i64 b0.a) :: SV.v (Value.int IntKind.i64 b0.b) :: SV.v (Value.int IntKind.i64 b0.n) :: SV.v (Value.string (ByteArray.mk (Array.mk b0.text))) :: SV.v (Value.int IntKind.i64 b0.args0) :: SV.v (Value.int IntKind.i64 b0.args1) :: SV.v (Value.int IntKind.i64 b0.args2) :: SV.v (Value.int IntKind.i64 b0.args3) :: SV.v (Value.int IntKind.i64 b0.args4) :: SV.v (Value.int IntKind.i64 b0.args5) :: SV.v (Value.int IntKind.i64 b0.to_) :: SV.v (Value.int IntKind.i64 b0.else_) :: @List.nil SV ++ @List.nil SV))) (List.take (15 : Nat) (List.drop (0 : Nat) (SV.v (Value.int IntKind.i64 b2.kind) :: SV.v (Value.int IntKind.i64 b2.op) :: SV.v (Value.int IntKind.i64 b2.dst) :: SV.v (Value.int IntKind.i64 b2.a) :: SV.v (Value.int IntKind.i64 b2.b) :: SV.v (Value.int IntKind.i64 b2.n) :: SV.v (Value.string (ByteArray.mk (Array.mk b2.text))) :: SV.v (Value.int IntKind.i64 b2.args0) :: SV.v (Value.int IntKind.i64 b2.args1) :: SV.v (Value.int IntKind.i64 b2.args2) :: SV.v (Value.int IntKind.i64 b2.args3) :: SV.v (Value.int IntKind.i64 b2.args4) :: SV.v (Value.int IntKind.i64 b2.args5) :: SV.v (Value.int IntKind.i64 b2.to_) :: SV.v (Value.int IntKind.i64 b2.else_) :: @List.nil SV ++ @List.nil SV)))) = true then
      some ((Dop.Ins.mk (0 : Int) b2.op b2.dst b2.a b2.b b2.n b2.text b2.args0 b2.args1 b2.args2 b2.args3 b2.args4 b2.args5 b2.to_ b2.else_, ()), ())
     else
      some ((b2, ()), ()) := Env.cut_eq' (E := Tryd.m47.E) (f0 := 3000) (c := 16) (q := ⟨[[0, 0, 1, 1, 1, 1, 0, 1, 0, 1, 1, 1, 1, 1, 1], [0, 1, 1, 1, 1, 1, 0, 1, 0, 1, 1, 1, 1, 1, 1], [1, 0], [0, 1, 1, 1, 1, 1, 1, 1]], [1, 2, 5, 25], 3, ⟨[.al 0 0, .al 1 0, .al 2 0, .fd (.int .i64)], [⟨0, 30, [.st 3], false⟩, ⟨1, 30, [.st 3], false⟩, ⟨2, 30, [.st 3], false⟩]⟩⟩) (by kernel_rfl) (((), (), (), t25, ()), ((b0, ()), (b1, ()), (b2, ()), ())) (by kernel_rfl) (by kernel_rfl)
theorem Tryd.m47_18_eq (t39 : Int) (t40 : Int) (b0 : En.Dop.Ins) (b1 : En.Dop.Ins) (b2 : En.Dop.Ins) : Tryd.m47_18 t39 t40 b0 b1 b2 =
  if (decide (t40 < t39)) = true then
   if (decide ((0 : Int) ≤ t40 ∧ t40 < I (6 : Nat))) = true then
   if (decide (t40.toNat < (b0.args0 :: b0.args1 :: b0.args2 :: b0.args3 :: b0.args4 :: b0.args5 :: @List.nil Int).length)) = true then
   if (inR (t40 + (1 : Int))) = true then
   Tryd.m47_18 (t39) (t40 + (1 : Int)) (Dop.Ins.mk b0.kind b0.op b0.dst b0.a b0.b b0.n b0.text (if t40.toNat = (0 : Nat) then (0 : Int) else b0.args0) (if t40.toNat = (0 : Nat) + (1 : Nat) then (0 : Int) else b0.args1) (if t40.toNat = (0 : Nat) + (1 : Nat) + (1 : Nat) then (0 : Int) else b0.args2) (if t40.toNat = (0 : Nat) + (1 : Nat) + (1 : Nat) + (1 : Nat) then (0 : Int) else b0.args3) (if t40.toNat = (0 : Nat) + (1 : Nat) + (1 : Nat) + (1 : Nat) + (1 : Nat) then (0 : Int) else b0.args4) (if t40.toNat = (0 : Nat) + (1 : Nat) + (1 : Nat) + (1 : Nat) + (1 : Nat) + (1 : Nat) then (0 : Int) else b0.args5) b0.to_ b0.else_) (b1) (b2)
   else none
   else none
   else none
  else
   if (!eqSs (List.take (15 : Nat) (List.drop (0 : Nat) (spl (spl (SV.v (Value.int IntKind.i64 b0.kind) :: SV.v (Value.int IntKind.i64 b0.op) :: SV.v (Value.int IntKind.i64 b0.dst) :: SV.v (Value.int IntKind.i64 b0.a) :: SV.v (Value.int IntKind.i64 b0.b) :: SV.v (Value.int IntKind.i64 b0.n) :: SV.v (Value.string (ByteArray.mk (Array.mk b0.text))) :: SV.v (Value.int IntKind.i64 b0.args0) :: SV.v (Value.int IntKind.i64 b0.args1) :: SV.v (Value.int IntKind.i64 b0.args2) :: SV.v (Value.int IntKind.i64 b0.args3) :: SV.v (Value.int IntKind.i64 b0.args4) :: SV.v (Value.int IntKind.i64 b0.args5) :: SV.v (Value.int IntKind.i64 b0.to_) :: SV.v (Value.int IntKind.i64 b0.else_) :: @List.nil SV ++ @List.nil SV) ((0 : Nat) + (5 : Nat)) (SV.v (Value.int IntKind.i64 (0 : Int)) :: @List.nil SV)) ((0 : Nat) + (6 : Nat)) (SV.v (Value.string (ByteArray.mk (@List.nil UInt8).toArray)) :: @List.nil SV)))) (List.take (15 : Nat) (List.drop (0 : Nat) (SV.v (Value.int IntKind.i64 b2.kind) :: SV.v (Value.int IntKind.i64 b2.op) :: SV.v (Value.int IntKind.i64 b2.dst) :: SV.v (Value.int IntKind.i64 b2.a) :: SV.v (Value.int IntKind.i64 b2.b) :: SV.v (Value.int IntKind.i64 b2.n) :: SV.v (Value.string (ByteArray.mk (Array.mk b2.text))) :: SV.v (Value.int IntKind.i64 b2.args0) :: SV.v (Value.int IntKind.i64 b2.args1) :: SV.v (Value.int IntKind.i64 b2.args2) :: SV.v (Value.int IntKind.i64 b2.args3) :: SV.v (Value.int IntKind.i64 b2.args4) :: SV.v (Value.int IntKind.i64 b2.args5) :: SV.v (Value.int IntKind.i64 b2.to_) :: SV.v (Value.int IntKind.i64 b2.else_) :: @List.nil SV ++ @List.nil SV)))) = true then
    some ((Dop.Ins.mk (0 : Int) b2.op b2.dst b2.a b2.b b2.n b2.text b2.args0 b2.args1 b2.args2 b2.args3 b2.args4 b2.args5 b2.to_ b2.else_, ()), ())
   else
    some ((b2, ()), ()) := Env.cut_eq' (E := Tryd.m47.E) (f0 := 3000) (c := 18) (q := ⟨[[0, 0, 0, 0, 1, 0, 0, 1, 1, 1, 1, 1, 0, 1, 0, 1, 1, 1, 1, 1, 1], [0, 1, 0, 0, 1, 0, 0, 1, 1, 1, 1, 1, 0, 1, 0, 1, 1, 1, 1, 1, 1], [2, 0, 0, 1, 0, 0, 1, 1, 1, 1, 1, 0, 1, 0, 1, 1, 1, 1, 1, 1], [1, 1], [0, 1, 0, 1, 1, 1, 1, 1, 0, 1, 0, 1, 1, 1, 1, 1, 1], [1, 0], [0, 1, 1, 1, 1, 1, 1, 1]], [1, 2, 5, 39, 40], 3, ⟨[.al 0 0, .al 1 0, .al 2 0, .fd (.int .i64), .fd (.int .i64)], [⟨0, 30, [.st 3], false⟩, ⟨1, 30, [.st 3], false⟩, ⟨2, 30, [.st 3], false⟩]⟩⟩) (by kernel_rfl) (((), (), (), t39, t40, ()), ((b0, ()), (b1, ()), (b2, ()), ())) (by kernel_rfl) (by kernel_rfl)

def Tryd.m45.p : Pln := ⟨[], 1, ⟨[.fd (.int .i64), .al 0 0], [⟨0, 24, [.st 4], false⟩]⟩, ⟨[.fd .bool], [⟨0, 24, [.st 4], false⟩]⟩, false, [], []⟩
noncomputable def Tryd.m45.E : Env En.Dop.D7 := envOf Tryd.prog 45 Tryd.tb [] Tryd.m45.p
theorem Tryd.m45.ok : plnOk En.Dop.D7 Tryd.prog 45 Tryd.m45.p = true := by kernel_rfl
noncomputable def Tryd.m45.c : Ctr En.Dop.D7 := ⟨45, Tryd.m45.p.bn, Tryd.m45.p.sp, Tryd.m45.p.rs, Tryd.m45.p.flat, .opt (Tryd.m45.E.run 3000 Tryd.m45.p.sp)⟩
theorem Tryd.m45.holds : Tryd.m45.c.Holds Tryd.prog := fun_ctr 3000 Tryd.tbOk hct_nil Tryd.m45.ok
noncomputable def Tryd.m45 (n : Int) (b0 : En.Dop.Fnc) : Option (Spec.D En.Dop.D7 ⟨[.fd .bool], [⟨0, 24, [.st 4], false⟩]⟩) := Tryd.m45.E.run 3000 Tryd.m45.p.sp ((n, (), ()), ((b0, ()), ()))
theorem Tryd.m45_eq (n : Int) (b0 : En.Dop.Fnc) : Tryd.m45 n b0 =
  if (decide ((0 : Int) ≤ n)) = true then
   some ((decide (n < b0.regs), ()), ((b0, ()), ()))
  else
   some ((false, ()), ((b0, ()), ())) := by kernel_rfl

def Tryd.m33.p : Pln := ⟨[], 0, ⟨[.st 3], []⟩, ⟨[.own 0 3], []⟩, true, [], []⟩
noncomputable def Tryd.m33.E : Env En.Dop.D7 := envOf Tryd.prog 33 Tryd.tb [Tryd.m43.c] Tryd.m33.p
theorem Tryd.m33.ok : plnOk En.Dop.D7 Tryd.prog 33 Tryd.m33.p = true := by kernel_rfl
noncomputable def Tryd.m33.c : Ctr En.Dop.D7 := ⟨33, Tryd.m33.p.bn, Tryd.m33.p.sp, Tryd.m33.p.rs, Tryd.m33.p.flat, .opt (Tryd.m33.E.run 3000 Tryd.m33.p.sp)⟩
theorem Tryd.m33.holds : Tryd.m33.c.Holds Tryd.prog := fun_ctr 3000 Tryd.tbOk (hct_cons Tryd.m43.holds hct_nil) Tryd.m33.ok
noncomputable def Tryd.m33 (i : En.Dop.Ins) : Option (Spec.D En.Dop.D7 ⟨[.own 0 3], []⟩) := Tryd.m33.E.run 3000 Tryd.m33.p.sp ((i, ()), ())
theorem Tryd.m33_eq (i : En.Dop.Ins) : Tryd.m33 i =
  (Tryd.m43 (i.kind)).bind fun y2 =>
   if (y2.fst.fst) = true then
    if (andC none (room (8 : Nat) ((@List.nil Int).length + (i.a :: @List.nil Int).length))) = true then
    if (y2.fst.snd.fst) = true then
     if (andC none (room (8 : Nat) ((@List.nil Int ++ i.a :: @List.nil Int).length + (i.b :: @List.nil Int).length))) = true then
     if (decide (i.kind = (8 : Int))) = true then
      if (decide (((0 : Int) ≤ if (6 : Int) < if i.n < (0 : Int) then (0 : Int) else i.n then (6 : Int) else if i.n < (0 : Int) then (0 : Int) else i.n) ∧ (if (6 : Int) < if i.n < (0 : Int) then (0 : Int) else i.n then (6 : Int) else if i.n < (0 : Int) then (0 : Int) else i.n) ≤ I (6 : Nat))) = true then
      if (andC (some (decide ((if (6 : Int) < if i.n < (0 : Int) then (0 : Int) else i.n then (6 : Int) else if i.n < (0 : Int) then (0 : Int) else i.n).toNat ≤ (6 : Nat)))) (room (8 : Nat) ((@List.nil Int ++ i.a :: @List.nil Int ++ i.b :: @List.nil Int).length + (List.take (if (6 : Int) < if i.n < (0 : Int) then (0 : Int) else i.n then (6 : Int) else if i.n < (0 : Int) then (0 : Int) else i.n).toNat (i.args0 :: i.args1 :: i.args2 :: i.args3 :: i.args4 :: i.args5 :: @List.nil Int)).length))) = true then
      some ((@List.nil Int ++ i.a :: @List.nil Int ++ i.b :: @List.nil Int ++ List.take (if (6 : Int) < if i.n < (0 : Int) then (0 : Int) else i.n then (6 : Int) else if i.n < (0 : Int) then (0 : Int) else i.n).toNat (i.args0 :: i.args1 :: i.args2 :: i.args3 :: i.args4 :: i.args5 :: @List.nil Int), ()), ())
      else none
      else none
     else
      some ((@List.nil Int ++ i.a :: @List.nil Int ++ i.b :: @List.nil Int, ()), ())
     else none
    else
     if (decide (i.kind = (8 : Int))) = true then
      if (decide (((0 : Int) ≤ if (6 : Int) < if i.n < (0 : Int) then (0 : Int) else i.n then (6 : Int) else if i.n < (0 : Int) then (0 : Int) else i.n) ∧ (if (6 : Int) < if i.n < (0 : Int) then (0 : Int) else i.n then (6 : Int) else if i.n < (0 : Int) then (0 : Int) else i.n) ≤ I (6 : Nat))) = true then
      if (andC (some (decide ((if (6 : Int) < if i.n < (0 : Int) then (0 : Int) else i.n then (6 : Int) else if i.n < (0 : Int) then (0 : Int) else i.n).toNat ≤ (6 : Nat)))) (room (8 : Nat) ((@List.nil Int ++ i.a :: @List.nil Int).length + (List.take (if (6 : Int) < if i.n < (0 : Int) then (0 : Int) else i.n then (6 : Int) else if i.n < (0 : Int) then (0 : Int) else i.n).toNat (i.args0 :: i.args1 :: i.args2 :: i.args3 :: i.args4 :: i.args5 :: @List.nil Int)).length))) = true then
      some ((@List.nil Int ++ i.a :: @List.nil Int ++ List.take (if (6 : Int) < if i.n < (0 : Int) then (0 : Int) else i.n then (6 : Int) else if i.n < (0 : Int) then (0 : Int) else i.n).toNat (i.args0 :: i.args1 :: i.args2 :: i.args3 :: i.args4 :: i.args5 :: @List.nil Int), ()), ())
      else none
      else none
     else
      some ((@List.nil Int ++ i.a :: @List.nil Int, ()), ())
    else none
   else
    if (y2.fst.snd.fst) = true then
     if (andC none (room (8 : Nat) ((@List.nil Int).length + (i.b :: @List.nil Int).length))) = true then
     if (decide (i.kind = (8 : Int))) = true then
      if (decide (((0 : Int) ≤ if (6 : Int) < if i.n < (0 : Int) then (0 : Int) else i.n then (6 : Int) else if i.n < (0 : Int) then (0 : Int) else i.n) ∧ (if (6 : Int) < if i.n < (0 : Int) then (0 : Int) else i.n then (6 : Int) else if i.n < (0 : Int) then (0 : Int) else i.n) ≤ I (6 : Nat))) = true then
      if (andC (some (decide ((if (6 : Int) < if i.n < (0 : Int) then (0 : Int) else i.n then (6 : Int) else if i.n < (0 : Int) then (0 : Int) else i.n).toNat ≤ (6 : Nat)))) (room (8 : Nat) ((@List.nil Int ++ i.b :: @List.nil Int).length + (List.take (if (6 : Int) < if i.n < (0 : Int) then (0 : Int) else i.n then (6 : Int) else if i.n < (0 : Int) then (0 : Int) else i.n).toNat (i.args0 :: i.args1 :: i.args2 :: i.args3 :: i.args4 :: i.args5 :: @List.nil Int)).length))) = true then
      some ((@List.nil Int ++ i.b :: @List.nil Int ++ List.take (if (6 : Int) < if i.n < (0 : Int) then (0 : Int) else i.n then (6 : Int) else if i.n < (0 : Int) then (0 : Int) else i.n).toNat (i.args0 :: i.args1 :: i.args2 :: i.args3 :: i.args4 :: i.args5 :: @List.nil Int), ()), ())
      else none
      else none
     else
      some ((@List.nil Int ++ i.b :: @List.nil Int, ()), ())
     else none
    else
     if (decide (i.kind = (8 : Int))) = true then
      if (decide (((0 : Int) ≤ if (6 : Int) < if i.n < (0 : Int) then (0 : Int) else i.n then (6 : Int) else if i.n < (0 : Int) then (0 : Int) else i.n) ∧ (if (6 : Int) < if i.n < (0 : Int) then (0 : Int) else i.n then (6 : Int) else if i.n < (0 : Int) then (0 : Int) else i.n) ≤ I (6 : Nat))) = true then
      if (andC (some (decide ((if (6 : Int) < if i.n < (0 : Int) then (0 : Int) else i.n then (6 : Int) else if i.n < (0 : Int) then (0 : Int) else i.n).toNat ≤ (6 : Nat)))) (room (8 : Nat) ((@List.nil Int).length + (List.take (if (6 : Int) < if i.n < (0 : Int) then (0 : Int) else i.n then (6 : Int) else if i.n < (0 : Int) then (0 : Int) else i.n).toNat (i.args0 :: i.args1 :: i.args2 :: i.args3 :: i.args4 :: i.args5 :: @List.nil Int)).length))) = true then
      some ((@List.nil Int ++ List.take (if (6 : Int) < if i.n < (0 : Int) then (0 : Int) else i.n then (6 : Int) else if i.n < (0 : Int) then (0 : Int) else i.n).toNat (i.args0 :: i.args1 :: i.args2 :: i.args3 :: i.args4 :: i.args5 :: @List.nil Int), ()), ())
      else none
      else none
     else
      some ((@List.nil Int, ()), ()) := by kernel_rfl

def Tryd.m62_45.p : Pln := ⟨[], 2, ⟨[.fd (.int .i64), .al 0 0], [⟨0, 69, [.fn 45 [(1, 0)]], false⟩, ⟨1, 24, [.st 4], false⟩]⟩, ⟨[.fd .bool], [⟨0, 69, [.fn 45 [(1, 0)]], false⟩, ⟨1, 24, [.st 4], false⟩]⟩, false, [], []⟩
noncomputable def Tryd.m62_45.E : Env En.Dop.D7 := envOf Tryd.prog 62 Tryd.tb [Tryd.m45.c] Tryd.m62_45.p
theorem Tryd.m62_45.ok : plnOk En.Dop.D7 Tryd.prog 62 Tryd.m62_45.p = true := by kernel_rfl
noncomputable def Tryd.m62_45.c : Ctr En.Dop.D7 := ⟨62, Tryd.m62_45.p.bn, Tryd.m62_45.p.sp, Tryd.m62_45.p.rs, Tryd.m62_45.p.flat, .opt (Tryd.m62_45.E.run 3000 Tryd.m62_45.p.sp)⟩
theorem Tryd.m62_45.holds : Tryd.m62_45.c.Holds Tryd.prog := fun_ctr 3000 Tryd.tbOk (hct_cons Tryd.m45.holds hct_nil) Tryd.m62_45.ok
noncomputable def Tryd.m62_45 (n : Int) (b1 : En.Dop.Fnc) : Option (Spec.D En.Dop.D7 ⟨[.fd .bool], [⟨0, 69, [.fn 45 [(1, 0)]], false⟩, ⟨1, 24, [.st 4], false⟩]⟩) := Tryd.m62_45.E.run 3000 Tryd.m62_45.p.sp ((n, (), ()), (((), ()), (b1, ()), ()))
theorem Tryd.m62_45_eq (n : Int) (b1 : En.Dop.Fnc) : Tryd.m62_45 n b1 =
  (Tryd.m45 (n) (b1)).bind fun y2 =>
   some ((!y2.fst.fst, ()), (((), ()), ((y2.snd.fst.fst, ()), ()))) := by kernel_rfl

def Tryd.m73_62_45.p : Pln := ⟨[(2, ⟨[[0, 0, 0, 0, 1, 0, 1], [0, 1, 0, 0, 1, 0, 1], [2, 0, 0, 1, 0, 1], [1, 0], [0, 1, 1]], [0, 1, 7, 8], 2, ⟨[.fd (.sl 0), .fn 62 [(0, 0)], .fd (.int .i64), .fd (.int .i64)], [⟨0, 69, [.fn 45 [(1, 0)]], false⟩, ⟨1, 24, [.st 4], false⟩]⟩⟩)], 2, ⟨[.fd (.sl 0), .fn 62 [(0, 0)]], [⟨0, 69, [.fn 45 [(1, 0)]], false⟩, ⟨1, 24, [.st 4], false⟩]⟩, ⟨[.fd (.int .i64)], [⟨0, 69, [.fn 45 [(1, 0)]], false⟩, ⟨1, 24, [.st 4], false⟩]⟩, false, [], []⟩
noncomputable def Tryd.m73_62_45.E : Env En.Dop.D7 := envOf Tryd.prog 73 Tryd.tb [Tryd.m62_45.c] Tryd.m73_62_45.p
theorem Tryd.m73_62_45.ok : plnOk En.Dop.D7 Tryd.prog 73 Tryd.m73_62_45.p = true := by kernel_rfl
noncomputable def Tryd.m73_62_45.c : Ctr En.Dop.D7 := ⟨73, Tryd.m73_62_45.p.bn, Tryd.m73_62_45.p.sp, Tryd.m73_62_45.p.rs, Tryd.m73_62_45.p.flat, .opt (Tryd.m73_62_45.E.run 3000 Tryd.m73_62_45.p.sp)⟩
theorem Tryd.m73_62_45.holds : Tryd.m73_62_45.c.Holds Tryd.prog := fun_ctr 3000 Tryd.tbOk (hct_cons Tryd.m62_45.holds hct_nil) Tryd.m73_62_45.ok
noncomputable def Tryd.m73_62_45 (s : List (Int)) (b1 : En.Dop.Fnc) : Option (Spec.D En.Dop.D7 ⟨[.fd (.int .i64)], [⟨0, 69, [.fn 45 [(1, 0)]], false⟩, ⟨1, 24, [.st 4], false⟩]⟩) := Tryd.m73_62_45.E.run 3000 Tryd.m73_62_45.p.sp ((s, (), ()), (((), ()), (b1, ()), ()))
noncomputable def Tryd.m73_62_45_2 (s : List (Int)) (t7 : Int) (t8 : Int) (b1 : En.Dop.Fnc) : Option (Spec.D En.Dop.D7 ⟨[.fd (.int .i64)], [⟨0, 69, [.fn 45 [(1, 0)]], false⟩, ⟨1, 24, [.st 4], false⟩]⟩) := Tryd.m73_62_45.E.cut 3000 2 ((s, (), t7, t8, ()), (((), ()), (b1, ()), ()))
theorem Tryd.m73_62_45_eq (s : List (Int)) (b1 : En.Dop.Fnc) : Tryd.m73_62_45 s b1 =
  Tryd.m73_62_45_2 (s) (I s.length) ((0 : Int)) (b1) := by kernel_rfl
theorem Tryd.m73_62_45_2_eq (s : List (Int)) (t7 : Int) (t8 : Int) (b1 : En.Dop.Fnc) : Tryd.m73_62_45_2 s t7 t8 b1 =
  if (decide (t8 < t7)) = true then
   if (decide ((0 : Int) ≤ t8 ∧ t8 < I s.length)) = true then
   (Tryd.m62_45 (@List.getD Int s t8.toNat (0 : Int)) (b1)).bind fun y3 =>
    if (y3.fst.fst) = true then
     some ((t8, ()), (((), ()), ((y3.snd.snd.fst.fst, ()), ())))
    else
     if (inR (t8 + (1 : Int))) = true then
     Tryd.m73_62_45_2 (s) (t7) (t8 + (1 : Int)) (y3.snd.snd.fst.fst)
     else none
   else none
  else
   some (((-1 : Int), ()), (((), ()), ((b1, ()), ()))) := Env.cut_eq' (E := Tryd.m73_62_45.E) (f0 := 3000) (c := 2) (q := ⟨[[0, 0, 0, 0, 1, 0, 1], [0, 1, 0, 0, 1, 0, 1], [2, 0, 0, 1, 0, 1], [1, 0], [0, 1, 1]], [0, 1, 7, 8], 2, ⟨[.fd (.sl 0), .fn 62 [(0, 0)], .fd (.int .i64), .fd (.int .i64)], [⟨0, 69, [.fn 45 [(1, 0)]], false⟩, ⟨1, 24, [.st 4], false⟩]⟩⟩) (by kernel_rfl) ((s, (), t7, t8, ()), (((), ()), (b1, ()), ())) (by kernel_rfl) (by kernel_rfl)

def Tryd.m61_62_45.p : Pln := ⟨[], 2, ⟨[.fd (.sl 0), .fn 62 [(0, 0)]], [⟨0, 69, [.fn 45 [(1, 0)]], false⟩, ⟨1, 24, [.st 4], false⟩]⟩, ⟨[.fd .bool], [⟨0, 69, [.fn 45 [(1, 0)]], false⟩, ⟨1, 24, [.st 4], false⟩]⟩, false, [], []⟩
noncomputable def Tryd.m61_62_45.E : Env En.Dop.D7 := envOf Tryd.prog 61 Tryd.tb [Tryd.m73_62_45.c] Tryd.m61_62_45.p
theorem Tryd.m61_62_45.ok : plnOk En.Dop.D7 Tryd.prog 61 Tryd.m61_62_45.p = true := by kernel_rfl
noncomputable def Tryd.m61_62_45.c : Ctr En.Dop.D7 := ⟨61, Tryd.m61_62_45.p.bn, Tryd.m61_62_45.p.sp, Tryd.m61_62_45.p.rs, Tryd.m61_62_45.p.flat, .opt (Tryd.m61_62_45.E.run 3000 Tryd.m61_62_45.p.sp)⟩
theorem Tryd.m61_62_45.holds : Tryd.m61_62_45.c.Holds Tryd.prog := fun_ctr 3000 Tryd.tbOk (hct_cons Tryd.m73_62_45.holds hct_nil) Tryd.m61_62_45.ok
noncomputable def Tryd.m61_62_45 (s : List (Int)) (b1 : En.Dop.Fnc) : Option (Spec.D En.Dop.D7 ⟨[.fd .bool], [⟨0, 69, [.fn 45 [(1, 0)]], false⟩, ⟨1, 24, [.st 4], false⟩]⟩) := Tryd.m61_62_45.E.run 3000 Tryd.m61_62_45.p.sp ((s, (), ()), (((), ()), (b1, ()), ()))
theorem Tryd.m61_62_45_eq (s : List (Int)) (b1 : En.Dop.Fnc) : Tryd.m61_62_45 s b1 =
  (Tryd.m73_62_45 (s) (b1)).bind fun y2 =>
   some ((decide ((0 : Int) ≤ y2.fst.fst), ()), (((), ()), ((y2.snd.snd.fst.fst, ()), ()))) := by kernel_rfl

def Tryd.m48_45.p : Pln := ⟨[], 1, ⟨[.fd (.sl 0), .fn 45 [(0, 0)]], [⟨0, 24, [.st 4], false⟩]⟩, ⟨[.fd .bool], [⟨0, 24, [.st 4], false⟩]⟩, false, [], []⟩
noncomputable def Tryd.m48_45.E : Env En.Dop.D7 := envOf Tryd.prog 48 Tryd.tb [Tryd.m61_62_45.c] Tryd.m48_45.p
theorem Tryd.m48_45.ok : plnOk En.Dop.D7 Tryd.prog 48 Tryd.m48_45.p = true := by kernel_rfl
noncomputable def Tryd.m48_45.c : Ctr En.Dop.D7 := ⟨48, Tryd.m48_45.p.bn, Tryd.m48_45.p.sp, Tryd.m48_45.p.rs, Tryd.m48_45.p.flat, .opt (Tryd.m48_45.E.run 3000 Tryd.m48_45.p.sp)⟩
theorem Tryd.m48_45.holds : Tryd.m48_45.c.Holds Tryd.prog := fun_ctr 3000 Tryd.tbOk (hct_cons Tryd.m61_62_45.holds hct_nil) Tryd.m48_45.ok
noncomputable def Tryd.m48_45 (l : List (Int)) (b0 : En.Dop.Fnc) : Option (Spec.D En.Dop.D7 ⟨[.fd .bool], [⟨0, 24, [.st 4], false⟩]⟩) := Tryd.m48_45.E.run 3000 Tryd.m48_45.p.sp ((l, (), ()), ((b0, ()), ()))
theorem Tryd.m48_45_eq (l : List (Int)) (b0 : En.Dop.Fnc) : Tryd.m48_45 l b0 =
  (Tryd.m61_62_45 (l) (b0)).bind fun y2 =>
   some ((!y2.fst.fst, ()), ((y2.snd.snd.fst.fst, ()), ())) := by kernel_rfl

def Tryd.m49.p : Pln := ⟨[], 0, ⟨[.fd (.int .i64)], []⟩, ⟨[.fd .bool], []⟩, true, [], []⟩
noncomputable def Tryd.m49.E : Env En.Dop.D7 := envOf Tryd.prog 49 Tryd.tb [] Tryd.m49.p
theorem Tryd.m49.ok : plnOk En.Dop.D7 Tryd.prog 49 Tryd.m49.p = true := by kernel_rfl
noncomputable def Tryd.m49.c : Ctr En.Dop.D7 := ⟨49, Tryd.m49.p.bn, Tryd.m49.p.sp, Tryd.m49.p.rs, Tryd.m49.p.flat, .opt (Tryd.m49.E.run 3000 Tryd.m49.p.sp)⟩
theorem Tryd.m49.holds : Tryd.m49.c.Holds Tryd.prog := fun_ctr 3000 Tryd.tbOk hct_nil Tryd.m49.ok
noncomputable def Tryd.m49 (op : Int) : Option (Spec.D En.Dop.D7 ⟨[.fd .bool], []⟩) := Tryd.m49.E.run 3000 Tryd.m49.p.sp ((op, ()), ())
theorem Tryd.m49_eq (op : Int) : Tryd.m49 op =
  if (decide ((20 : Int) ≤ op)) = true then
   some ((decide (op ≤ (23 : Int)), ()), ())
  else
   some ((false, ()), ()) := by kernel_rfl

def Tryd.m50.p : Pln := ⟨[], 0, ⟨[.fd (.int .i64)], []⟩, ⟨[.fd .bool], []⟩, true, [], []⟩
noncomputable def Tryd.m50.E : Env En.Dop.D7 := envOf Tryd.prog 50 Tryd.tb [] Tryd.m50.p
theorem Tryd.m50.ok : plnOk En.Dop.D7 Tryd.prog 50 Tryd.m50.p = true := by kernel_rfl
noncomputable def Tryd.m50.c : Ctr En.Dop.D7 := ⟨50, Tryd.m50.p.bn, Tryd.m50.p.sp, Tryd.m50.p.rs, Tryd.m50.p.flat, .opt (Tryd.m50.E.run 3000 Tryd.m50.p.sp)⟩
theorem Tryd.m50.holds : Tryd.m50.c.Holds Tryd.prog := fun_ctr 3000 Tryd.tbOk hct_nil Tryd.m50.ok
noncomputable def Tryd.m50 (op : Int) : Option (Spec.D En.Dop.D7 ⟨[.fd .bool], []⟩) := Tryd.m50.E.run 3000 Tryd.m50.p.sp ((op, ()), ())
theorem Tryd.m50_eq (op : Int) : Tryd.m50 op =
  if (decide ((1 : Int) ≤ op)) = true then
   some ((decide (op ≤ (19 : Int)), ()), ())
  else
   some ((false, ()), ()) := by kernel_rfl

def Tryd.m46.p : Pln := ⟨[], 1, ⟨[.fd (.int .i64), .al 0 0], [⟨0, 24, [.st 4], false⟩]⟩, ⟨[.fd .bool], [⟨0, 24, [.st 4], false⟩]⟩, false, [], []⟩
noncomputable def Tryd.m46.E : Env En.Dop.D7 := envOf Tryd.prog 46 Tryd.tb [] Tryd.m46.p
theorem Tryd.m46.ok : plnOk En.Dop.D7 Tryd.prog 46 Tryd.m46.p = true := by kernel_rfl
noncomputable def Tryd.m46.c : Ctr En.Dop.D7 := ⟨46, Tryd.m46.p.bn, Tryd.m46.p.sp, Tryd.m46.p.rs, Tryd.m46.p.flat, .opt (Tryd.m46.E.run 3000 Tryd.m46.p.sp)⟩
theorem Tryd.m46.holds : Tryd.m46.c.Holds Tryd.prog := fun_ctr 3000 Tryd.tbOk hct_nil Tryd.m46.ok
noncomputable def Tryd.m46 (n : Int) (b0 : En.Dop.Fnc) : Option (Spec.D En.Dop.D7 ⟨[.fd .bool], [⟨0, 24, [.st 4], false⟩]⟩) := Tryd.m46.E.run 3000 Tryd.m46.p.sp ((n, (), ()), ((b0, ()), ()))
theorem Tryd.m46_eq (n : Int) (b0 : En.Dop.Fnc) : Tryd.m46 n b0 =
  if (decide ((0 : Int) ≤ n)) = true then
   some ((decide (n < I b0.code.length), ()), ((b0, ()), ()))
  else
   some ((false, ()), ((b0, ()), ())) := by kernel_rfl

def Tryd.m37.p : Pln := ⟨[], 0, ⟨[.st 3, .st 4], []⟩, ⟨[.fd .bool], []⟩, true, [], []⟩
noncomputable def Tryd.m37.E : Env En.Dop.D7 := envOf Tryd.prog 37 Tryd.tb [Tryd.m47.c, Tryd.m25.c, Tryd.m45.c, Tryd.m33.c, Tryd.m48_45.c, Tryd.m23.c, Tryd.m49.c, Tryd.m50.c, Tryd.m46.c] Tryd.m37.p
theorem Tryd.m37.ok : plnOk En.Dop.D7 Tryd.prog 37 Tryd.m37.p = true := by kernel_rfl
noncomputable def Tryd.m37.c : Ctr En.Dop.D7 := ⟨37, Tryd.m37.p.bn, Tryd.m37.p.sp, Tryd.m37.p.rs, Tryd.m37.p.flat, .opt (Tryd.m37.E.run 3000 Tryd.m37.p.sp)⟩
theorem Tryd.m37.holds : Tryd.m37.c.Holds Tryd.prog := fun_ctr 3000 Tryd.tbOk (hct_cons Tryd.m47.holds (hct_cons Tryd.m25.holds (hct_cons Tryd.m45.holds (hct_cons Tryd.m33.holds (hct_cons Tryd.m48_45.holds (hct_cons Tryd.m23.holds (hct_cons Tryd.m49.holds (hct_cons Tryd.m50.holds (hct_cons Tryd.m46.holds hct_nil))))))))) Tryd.m37.ok
noncomputable def Tryd.m37 (o : En.Dop.Ins) (t1 : En.Dop.Fnc) : Option (Spec.D En.Dop.D7 ⟨[.fd .bool], []⟩) := Tryd.m37.E.run 3000 Tryd.m37.p.sp ((o, t1, ()), ())
theorem Tryd.m37_eq (o : En.Dop.Ins) (t1 : En.Dop.Fnc) : Tryd.m37 o t1 =
  if (decide (o.kind < (1 : Int))) = true then
   some ((false, ()), ())
  else
   if (decide ((13 : Int) < o.kind)) = true then
    some ((false, ()), ())
   else
    (Tryd.m47 (o)).bind fun y4 =>
     if (decide (y4.fst.fst.kind = (0 : Int))) = true then
      some ((false, ()), ())
     else
      (Tryd.m25 (o.kind)).bind fun y6 =>
       if (y6.fst.fst) = true then
        (Tryd.m45 (o.dst) (t1)).bind fun y8 =>
         if (!y8.fst.fst) = true then
          if (decide (o.kind = (8 : Int))) = true then
           if (!decide (o.dst = (-1 : Int))) = true then
            some ((false, ()), ())
           else
            (Tryd.m33 (o)).bind fun y12 =>
             (Tryd.m48_45 (y12.fst.fst) (y8.snd.fst.fst)).bind fun y13 =>
              if (!y13.fst.fst) = true then
               some ((false, ()), ())
              else
               if (decide (o.kind = (1 : Int))) = true then
                (Tryd.m23 (o.n)).bind fun y16 =>
                 some ((y16.fst.fst, ()), ())
               else
                if (decide (o.kind = (2 : Int))) = true then
                 (Tryd.m49 (o.op)).bind fun y17 =>
                  some ((y17.fst.fst, ()), ())
                else
                 if (decide (o.kind = (3 : Int))) = true then
                  (Tryd.m50 (o.op)).bind fun y18 =>
                   some ((y18.fst.fst, ()), ())
                 else
                  if (decide (o.kind = (5 : Int))) = true then
                   if (decide ((0 : Int) ≤ o.n)) = true then
                    some ((decide (o.n ≤ y13.snd.fst.fst.frame), ()), ())
                   else
                    some ((false, ()), ())
                  else
                   if (decide (o.kind = (8 : Int))) = true then
                    if (decide ((0 : Int) ≤ o.n)) = true then
                     if (decide (o.n ≤ (6 : Int))) = true then
                      some ((!decide (o.text = @List.nil UInt8), ()), ())
                     else
                      some ((false, ()), ())
                    else
                     some ((false, ()), ())
                   else
                    if (decide (o.kind = (11 : Int))) = true then
                     (Tryd.m46 (o.to_) (y13.snd.fst.fst)).bind fun y21 =>
                      some ((y21.fst.fst, ()), ())
                    else
                     if (decide (o.kind = (12 : Int))) = true then
                      (Tryd.m46 (o.to_) (y13.snd.fst.fst)).bind fun y22 =>
                       if (y22.fst.fst) = true then
                        (Tryd.m46 (o.else_) (y22.snd.fst.fst)).bind fun y24 =>
                         some ((y24.fst.fst, ()), ())
                       else
                        some ((false, ()), ())
                     else
                      some ((true, ()), ())
          else
           some ((false, ()), ())
         else
          (Tryd.m33 (o)).bind fun y10 =>
           (Tryd.m48_45 (y10.fst.fst) (y8.snd.fst.fst)).bind fun y11 =>
            if (!y11.fst.fst) = true then
             some ((false, ()), ())
            else
             if (decide (o.kind = (1 : Int))) = true then
              (Tryd.m23 (o.n)).bind fun y14 =>
               some ((y14.fst.fst, ()), ())
             else
              if (decide (o.kind = (2 : Int))) = true then
               (Tryd.m49 (o.op)).bind fun y15 =>
                some ((y15.fst.fst, ()), ())
              else
               if (decide (o.kind = (3 : Int))) = true then
                (Tryd.m50 (o.op)).bind fun y16 =>
                 some ((y16.fst.fst, ()), ())
               else
                if (decide (o.kind = (5 : Int))) = true then
                 if (decide ((0 : Int) ≤ o.n)) = true then
                  some ((decide (o.n ≤ y11.snd.fst.fst.frame), ()), ())
                 else
                  some ((false, ()), ())
                else
                 if (decide (o.kind = (8 : Int))) = true then
                  if (decide ((0 : Int) ≤ o.n)) = true then
                   if (decide (o.n ≤ (6 : Int))) = true then
                    some ((!decide (o.text = @List.nil UInt8), ()), ())
                   else
                    some ((false, ()), ())
                  else
                   some ((false, ()), ())
                 else
                  if (decide (o.kind = (11 : Int))) = true then
                   (Tryd.m46 (o.to_) (y11.snd.fst.fst)).bind fun y19 =>
                    some ((y19.fst.fst, ()), ())
                  else
                   if (decide (o.kind = (12 : Int))) = true then
                    (Tryd.m46 (o.to_) (y11.snd.fst.fst)).bind fun y20 =>
                     if (y20.fst.fst) = true then
                      (Tryd.m46 (o.else_) (y20.snd.fst.fst)).bind fun y22 =>
                       some ((y22.fst.fst, ()), ())
                     else
                      some ((false, ()), ())
                   else
                    some ((true, ()), ())
       else
        (Tryd.m33 (o)).bind fun y8 =>
         (Tryd.m48_45 (y8.fst.fst) (t1)).bind fun y9 =>
          if (!y9.fst.fst) = true then
           some ((false, ()), ())
          else
           if (decide (o.kind = (1 : Int))) = true then
            (Tryd.m23 (o.n)).bind fun y12 =>
             some ((y12.fst.fst, ()), ())
           else
            if (decide (o.kind = (2 : Int))) = true then
             (Tryd.m49 (o.op)).bind fun y13 =>
              some ((y13.fst.fst, ()), ())
            else
             if (decide (o.kind = (3 : Int))) = true then
              (Tryd.m50 (o.op)).bind fun y14 =>
               some ((y14.fst.fst, ()), ())
             else
              if (decide (o.kind = (5 : Int))) = true then
               if (decide ((0 : Int) ≤ o.n)) = true then
                some ((decide (o.n ≤ y9.snd.fst.fst.frame), ()), ())
               else
                some ((false, ()), ())
              else
               if (decide (o.kind = (8 : Int))) = true then
                if (decide ((0 : Int) ≤ o.n)) = true then
                 if (decide (o.n ≤ (6 : Int))) = true then
                  some ((!decide (o.text = @List.nil UInt8), ()), ())
                 else
                  some ((false, ()), ())
                else
                 some ((false, ()), ())
               else
                if (decide (o.kind = (11 : Int))) = true then
                 (Tryd.m46 (o.to_) (y9.snd.fst.fst)).bind fun y17 =>
                  some ((y17.fst.fst, ()), ())
                else
                 if (decide (o.kind = (12 : Int))) = true then
                  (Tryd.m46 (o.to_) (y9.snd.fst.fst)).bind fun y18 =>
                   if (y18.fst.fst) = true then
                    (Tryd.m46 (o.else_) (y18.snd.fst.fst)).bind fun y20 =>
                     some ((y20.fst.fst, ()), ())
                   else
                    some ((false, ()), ())
                 else
                  some ((true, ()), ()) := by kernel_rfl

def Tryd.m24.p : Pln := ⟨[(4, ⟨[[0, 0, 0, 0, 1, 0, 1, 1], [0, 1, 0, 0, 1, 0, 1, 1], [2, 0, 0, 1, 0, 1, 1], [1, 0], [0, 1, 1, 1]], [1, 53, 54, 55], 1, ⟨[.al 0 0, .fd (.sl 3), .fd (.int .i64), .fd (.int .i64)], [⟨0, 24, [.st 4], false⟩]⟩⟩)], 0, ⟨[.st 4], []⟩, ⟨[.fd .bool], []⟩, true, [], []⟩
noncomputable def Tryd.m24.E : Env En.Dop.D7 := envOf Tryd.prog 24 Tryd.tb [Tryd.m37.c] Tryd.m24.p
theorem Tryd.m24.ok : plnOk En.Dop.D7 Tryd.prog 24 Tryd.m24.p = true := by kernel_rfl
noncomputable def Tryd.m24.c : Ctr En.Dop.D7 := ⟨24, Tryd.m24.p.bn, Tryd.m24.p.sp, Tryd.m24.p.rs, Tryd.m24.p.flat, .opt (Tryd.m24.E.run 3000 Tryd.m24.p.sp)⟩
theorem Tryd.m24.holds : Tryd.m24.c.Holds Tryd.prog := fun_ctr 3000 Tryd.tbOk (hct_cons Tryd.m37.holds hct_nil) Tryd.m24.ok
noncomputable def Tryd.m24 (o : En.Dop.Fnc) : Option (Spec.D En.Dop.D7 ⟨[.fd .bool], []⟩) := Tryd.m24.E.run 3000 Tryd.m24.p.sp ((o, ()), ())
noncomputable def Tryd.m24_4 (t53 : List (En.Dop.Ins)) (t54 : Int) (t55 : Int) (b0 : En.Dop.Fnc) : Option (Spec.D En.Dop.D7 ⟨[.fd .bool], []⟩) := Tryd.m24.E.cut 3000 4 (((), t53, t54, t55, ()), ((b0, ()), ()))
theorem Tryd.m24_eq (o : En.Dop.Fnc) : Tryd.m24 o =
  if (decide (o.name = @List.nil UInt8)) = true then
   some ((false, ()), ())
  else
   if (decide (o.params < (0 : Int))) = true then
    some ((false, ()), ())
   else
    if (decide ((6 : Int) < o.params)) = true then
     some ((false, ()), ())
    else
     if (decide (o.regs < o.params)) = true then
      some ((false, ()), ())
     else
      if (decide ((4096 : Int) < o.regs)) = true then
       some ((false, ()), ())
      else
       if (decide (o.frame < (0 : Int))) = true then
        some ((false, ()), ())
       else
        if (decide ((4096 : Int) < o.frame)) = true then
         some ((false, ()), ())
        else
         if (decide (I o.code.length < (1 : Int))) = true then
          some ((false, ()), ())
         else
          if (decide ((8192 : Int) < I o.code.length)) = true then
           some ((false, ()), ())
          else
           Tryd.m24_4 (o.code) (I o.code.length) ((0 : Int)) (o) := by kernel_rfl
theorem Tryd.m24_4_eq (t53 : List (En.Dop.Ins)) (t54 : Int) (t55 : Int) (b0 : En.Dop.Fnc) : Tryd.m24_4 t53 t54 t55 b0 =
  if (decide (t55 < t54)) = true then
   if (decide ((0 : Int) ≤ t55 ∧ t55 < I t53.length)) = true then
   (Tryd.m37 (@List.getD Dop.Ins t53 t55.toNat Dop.d3) (b0)).bind fun y3 =>
    if (!y3.fst.fst) = true then
     some ((false, ()), ())
    else
     if (inR (t55 + (1 : Int))) = true then
     Tryd.m24_4 (t53) (t54) (t55 + (1 : Int)) (b0)
     else none
   else none
  else
   if (inR (I b0.code.length - (1 : Int))) = true then
   if (decide ((0 : Int) ≤ I b0.code.length - (1 : Int) ∧ I b0.code.length - (1 : Int) < I b0.code.length)) = true then
   some ((decide ((11 : Int) ≤ (@List.getD Dop.Ins b0.code (I b0.code.length - (1 : Int)).toNat Dop.d3).kind), ()), ())
   else none
   else none := Env.cut_eq' (E := Tryd.m24.E) (f0 := 3000) (c := 4) (q := ⟨[[0, 0, 0, 0, 1, 0, 1, 1], [0, 1, 0, 0, 1, 0, 1, 1], [2, 0, 0, 1, 0, 1, 1], [1, 0], [0, 1, 1, 1]], [1, 53, 54, 55], 1, ⟨[.al 0 0, .fd (.sl 3), .fd (.int .i64), .fd (.int .i64)], [⟨0, 24, [.st 4], false⟩]⟩⟩) (by kernel_rfl) (((), t53, t54, t55, ()), ((b0, ()), ())) (by kernel_rfl) (by kernel_rfl)

def Tryd.m11.p : Pln := ⟨[(4, ⟨[[0, 0, 0, 0, 1, 0, 1, 1], [0, 1, 0, 0, 1, 0, 1, 1], [2, 0, 0, 1, 0, 1, 1], [1, 0], [0, 1, 1, 1]], [1, 25, 26, 27], 1, ⟨[.al 0 0, .fd (.sl 5), .fd (.int .i64), .fd (.int .i64)], [⟨0, 38, [.st 6], false⟩]⟩⟩), (10, ⟨[[0, 0, 0, 0, 1, 0, 1, 1, 1], [0, 1, 0, 0, 1, 0, 1, 1, 1], [2, 0, 0, 1, 0, 1, 1, 1], [1, 2], [0, 1, 1, 1, 1]], [1, 64, 65, 66], 1, ⟨[.al 0 0, .fd (.sl 4), .fd (.int .i64), .fd (.int .i64)], [⟨0, 38, [.st 6], false⟩]⟩⟩), (15, ⟨[[0, 0, 0, 0, 1, 1, 1, 0, 0, 1, 1, 0, 0, 1, 0, 1, 1, 1], [0, 1, 0, 0, 1, 1, 1, 0, 0, 1, 1, 0, 0, 1, 0, 1, 1, 1], [2, 0, 0, 1, 1, 1, 0, 0, 1, 1, 0, 0, 1, 0, 1, 1, 1], [1, 4], [1, 3], [0, 1, 1, 1, 0, 0, 1, 0, 1, 1, 1], [2, 0, 0, 1, 0, 1, 1, 1], [1, 2], [0, 1, 1, 1, 1]], [1, 64, 65, 66, 83, 84, 85], 1, ⟨[.al 0 0, .fd (.sl 4), .fd (.int .i64), .fd (.int .i64), .fd (.sl 3), .fd (.int .i64), .fd (.int .i64)], [⟨0, 38, [.st 6], false⟩]⟩⟩)], 0, ⟨[.st 6], []⟩, ⟨[.fd .bool], []⟩, true, [(19, ⟨[(0, true), (1, true), (2, true), (3, true), (4, false), (5, true), (6, false), (7, false), (8, false), (9, true), (10, false), (11, true), (12, true)], [], [0, 1, 3, 7, 15, 7, 63, 127, 255, 7, 519, 2047, 4095], false⟩)], []⟩
noncomputable def Tryd.m11.E : Env En.Dop.D7 := envOf Tryd.prog 11 Tryd.tb [Tryd.m23.c, Tryd.m24.c, Tryd.m19.c] Tryd.m11.p
theorem Tryd.m11.ok : plnOk En.Dop.D7 Tryd.prog 11 Tryd.m11.p = true := by kernel_rfl
noncomputable def Tryd.m11.c : Ctr En.Dop.D7 := ⟨11, Tryd.m11.p.bn, Tryd.m11.p.sp, Tryd.m11.p.rs, Tryd.m11.p.flat, .opt (Tryd.m11.E.run 3000 Tryd.m11.p.sp)⟩
theorem Tryd.m11.holds : Tryd.m11.c.Holds Tryd.prog := fun_ctr 3000 Tryd.tbOk (hct_cons Tryd.m23.holds (hct_cons Tryd.m24.holds (hct_cons Tryd.m19.holds hct_nil))) Tryd.m11.ok
noncomputable def Tryd.m11 (o : En.Dop.Unt) : Option (Spec.D En.Dop.D7 ⟨[.fd .bool], []⟩) := Tryd.m11.E.run 3000 Tryd.m11.p.sp ((o, ()), ())
noncomputable def Tryd.m11_4 (t25 : List (En.Dop.Glb)) (t26 : Int) (t27 : Int) (b0 : En.Dop.Unt) : Option (Spec.D En.Dop.D7 ⟨[.fd .bool], []⟩) := Tryd.m11.E.cut 3000 4 (((), t25, t26, t27, ()), ((b0, ()), ()))
noncomputable def Tryd.m11_10 (t64 : List (En.Dop.Fnc)) (t65 : Int) (t66 : Int) (b0 : En.Dop.Unt) : Option (Spec.D En.Dop.D7 ⟨[.fd .bool], []⟩) := Tryd.m11.E.cut 3000 10 (((), t64, t65, t66, ()), ((b0, ()), ()))
noncomputable def Tryd.m11_15 (t64 : List (En.Dop.Fnc)) (t65 : Int) (t66 : Int) (t83 : List (En.Dop.Ins)) (t84 : Int) (t85 : Int) (b0 : En.Dop.Unt) : Option (Spec.D En.Dop.D7 ⟨[.fd .bool], []⟩) := Tryd.m11.E.cut 3000 15 (((), t64, t65, t66, t83, t84, t85, ()), ((b0, ()), ()))
theorem Tryd.m11_eq (o : En.Dop.Unt) : Tryd.m11 o =
  if (decide ((64 : Int) < I o.funcs.length)) = true then
   some ((false, ()), ())
  else
   if (decide (o.top < (1 : Int))) = true then
    some ((false, ()), ())
   else
    if (decide ((4096 : Int) < o.top)) = true then
     some ((false, ()), ())
    else
     Tryd.m11_4 (o.globals) (I o.globals.length) ((0 : Int)) (o) := by kernel_rfl
theorem Tryd.m11_4_eq (t25 : List (En.Dop.Glb)) (t26 : Int) (t27 : Int) (b0 : En.Dop.Unt) : Tryd.m11_4 t25 t26 t27 b0 =
  if (decide (t27 < t26)) = true then
   if (decide ((0 : Int) ≤ t27 ∧ t27 < I t25.length)) = true then
   if (decide ((@List.getD Dop.Glb t25 t27.toNat Dop.d5).at_ < (1 : Int))) = true then
    some ((false, ()), ())
   else
    if (decide ((@List.getD Dop.Glb t25 t27.toNat Dop.d5).size < (0 : Int))) = true then
     some ((false, ()), ())
    else
     if (decide (b0.top < (@List.getD Dop.Glb t25 t27.toNat Dop.d5).size)) = true then
      some ((false, ()), ())
     else
      if (inR (b0.top - (@List.getD Dop.Glb t25 t27.toNat Dop.d5).size)) = true then
      if (decide (b0.top - (@List.getD Dop.Glb t25 t27.toNat Dop.d5).size < (@List.getD Dop.Glb t25 t27.toNat Dop.d5).at_)) = true then
       some ((false, ()), ())
      else
       (Tryd.m23 ((@List.getD Dop.Glb t25 t27.toNat Dop.d5).init_)).bind fun y7 =>
        if (!y7.fst.fst) = true then
         some ((false, ()), ())
        else
         if (inR (t27 + (1 : Int))) = true then
         Tryd.m11_4 (t25) (t26) (t27 + (1 : Int)) (b0)
         else none
      else none
   else none
  else
   Tryd.m11_10 (b0.funcs) (I b0.funcs.length) ((0 : Int)) (b0) := Env.cut_eq' (E := Tryd.m11.E) (f0 := 3000) (c := 4) (q := ⟨[[0, 0, 0, 0, 1, 0, 1, 1], [0, 1, 0, 0, 1, 0, 1, 1], [2, 0, 0, 1, 0, 1, 1], [1, 0], [0, 1, 1, 1]], [1, 25, 26, 27], 1, ⟨[.al 0 0, .fd (.sl 5), .fd (.int .i64), .fd (.int .i64)], [⟨0, 38, [.st 6], false⟩]⟩⟩) (by kernel_rfl) (((), t25, t26, t27, ()), ((b0, ()), ())) (by kernel_rfl) (by kernel_rfl)
theorem Tryd.m11_10_eq (t64 : List (En.Dop.Fnc)) (t65 : Int) (t66 : Int) (b0 : En.Dop.Unt) : Tryd.m11_10 t64 t65 t66 b0 =
  if (decide (t66 < t65)) = true then
   if (decide ((0 : Int) ≤ t66 ∧ t66 < I t64.length)) = true then
   (Tryd.m24 (@List.getD Dop.Fnc t64 t66.toNat Dop.d4)).bind fun y3 =>
    if (!y3.fst.fst) = true then
     some ((false, ()), ())
    else
     (Tryd.m19 (b0) ((@List.getD Dop.Fnc t64 t66.toNat Dop.d4).name)).bind fun y5 =>
      if (!decide (y5.fst.fst = t66)) = true then
       some ((false, ()), ())
      else
       Tryd.m11_15 (t64) (t65) (t66) ((@List.getD Dop.Fnc t64 t66.toNat Dop.d4).code) (I (@List.getD Dop.Fnc t64 t66.toNat Dop.d4).code.length) ((0 : Int)) (b0)
   else none
  else
   some ((true, ()), ()) := Env.cut_eq' (E := Tryd.m11.E) (f0 := 3000) (c := 10) (q := ⟨[[0, 0, 0, 0, 1, 0, 1, 1, 1], [0, 1, 0, 0, 1, 0, 1, 1, 1], [2, 0, 0, 1, 0, 1, 1, 1], [1, 2], [0, 1, 1, 1, 1]], [1, 64, 65, 66], 1, ⟨[.al 0 0, .fd (.sl 4), .fd (.int .i64), .fd (.int .i64)], [⟨0, 38, [.st 6], false⟩]⟩⟩) (by kernel_rfl) (((), t64, t65, t66, ()), ((b0, ()), ())) (by kernel_rfl) (by kernel_rfl)
theorem Tryd.m11_15_eq (t64 : List (En.Dop.Fnc)) (t65 : Int) (t66 : Int) (t83 : List (En.Dop.Ins)) (t84 : Int) (t85 : Int) (b0 : En.Dop.Unt) : Tryd.m11_15 t64 t65 t66 t83 t84 t85 b0 =
  if (decide (t85 < t84)) = true then
   if (decide ((0 : Int) ≤ t85 ∧ t85 < I t83.length)) = true then
   if (!decide ((@List.getD Dop.Ins t83 t85.toNat Dop.d3).kind = (8 : Int))) = true then
    if (inR (t85 + (1 : Int))) = true then
    Tryd.m11_15 (t64) (t65) (t66) (t83) (t84) (t85 + (1 : Int)) (b0)
    else none
   else
    (Tryd.m19 (b0) ((@List.getD Dop.Ins t83 t85.toNat Dop.d3).text)).bind fun y4 =>
     if (decide (y4.fst.fst < (0 : Int))) = true then
      some ((false, ()), ())
     else
      if (decide ((0 : Int) ≤ y4.fst.fst ∧ y4.fst.fst < I b0.funcs.length)) = true then
      if (!decide ((@List.getD Dop.Fnc b0.funcs y4.fst.fst.toNat Dop.d4).params = (@List.getD Dop.Ins t83 t85.toNat Dop.d3).n)) = true then
       some ((false, ()), ())
      else
       if (inR (t85 + (1 : Int))) = true then
       Tryd.m11_15 (t64) (t65) (t66) (t83) (t84) (t85 + (1 : Int)) (b0)
       else none
      else none
   else none
  else
   if (inR (t66 + (1 : Int))) = true then
   Tryd.m11_10 (t64) (t65) (t66 + (1 : Int)) (b0)
   else none := Env.cut_eq' (E := Tryd.m11.E) (f0 := 3000) (c := 15) (q := ⟨[[0, 0, 0, 0, 1, 1, 1, 0, 0, 1, 1, 0, 0, 1, 0, 1, 1, 1], [0, 1, 0, 0, 1, 1, 1, 0, 0, 1, 1, 0, 0, 1, 0, 1, 1, 1], [2, 0, 0, 1, 1, 1, 0, 0, 1, 1, 0, 0, 1, 0, 1, 1, 1], [1, 4], [1, 3], [0, 1, 1, 1, 0, 0, 1, 0, 1, 1, 1], [2, 0, 0, 1, 0, 1, 1, 1], [1, 2], [0, 1, 1, 1, 1]], [1, 64, 65, 66, 83, 84, 85], 1, ⟨[.al 0 0, .fd (.sl 4), .fd (.int .i64), .fd (.int .i64), .fd (.sl 3), .fd (.int .i64), .fd (.int .i64)], [⟨0, 38, [.st 6], false⟩]⟩⟩) (by kernel_rfl) (((), t64, t65, t66, t83, t84, t85, ()), ((b0, ()), ())) (by kernel_rfl) (by kernel_rfl)

def Tryd.m42.p : Pln := ⟨[], 0, ⟨[.fd (.int .i64)], []⟩, ⟨[.fd (.int .i64)], []⟩, true, [], []⟩
noncomputable def Tryd.m42.E : Env En.Dop.D7 := envOf Tryd.prog 42 Tryd.tb [] Tryd.m42.p
theorem Tryd.m42.ok : plnOk En.Dop.D7 Tryd.prog 42 Tryd.m42.p = true := by kernel_rfl
noncomputable def Tryd.m42.c : Ctr En.Dop.D7 := ⟨42, Tryd.m42.p.bn, Tryd.m42.p.sp, Tryd.m42.p.rs, Tryd.m42.p.flat, .opt (Tryd.m42.E.run 3000 Tryd.m42.p.sp)⟩
theorem Tryd.m42.holds : Tryd.m42.c.Holds Tryd.prog := fun_ctr 3000 Tryd.tbOk hct_nil Tryd.m42.ok
noncomputable def Tryd.m42 (n : Int) : Option (Spec.D En.Dop.D7 ⟨[.fd (.int .i64)], []⟩) := Tryd.m42.E.run 3000 Tryd.m42.p.sp ((n, ()), ())
theorem Tryd.m42_eq (n : Int) : Tryd.m42 n =
  if (inR (IntKind.u32.wrap n)) = true then
  some ((IntKind.u32.wrap n, ()), ())
  else none := by kernel_rfl

def Tryd.m58.p : Pln := ⟨[], 0, ⟨[.fd (.int .i64)], []⟩, ⟨[.fd (.int .i64), .fd .bool], []⟩, true, [], []⟩
noncomputable def Tryd.m58.E : Env En.Dop.D7 := envOf Tryd.prog 58 Tryd.tb [Tryd.m36.c] Tryd.m58.p
theorem Tryd.m58.ok : plnOk En.Dop.D7 Tryd.prog 58 Tryd.m58.p = true := by kernel_rfl
noncomputable def Tryd.m58.c : Ctr En.Dop.D7 := ⟨58, Tryd.m58.p.bn, Tryd.m58.p.sp, Tryd.m58.p.rs, Tryd.m58.p.flat, .opt (Tryd.m58.E.run 3000 Tryd.m58.p.sp)⟩
theorem Tryd.m58.holds : Tryd.m58.c.Holds Tryd.prog := fun_ctr 3000 Tryd.tbOk (hct_cons Tryd.m36.holds hct_nil) Tryd.m58.ok
noncomputable def Tryd.m58 (n : Int) : Option (Spec.D En.Dop.D7 ⟨[.fd (.int .i64), .fd .bool], []⟩) := Tryd.m58.E.run 3000 Tryd.m58.p.sp ((n, ()), ())
theorem Tryd.m58_eq (n : Int) : Tryd.m58 n =
  (Tryd.m36 (n)).bind fun y2 =>
   some ((y2.fst.fst, (true, ())), ()) := by kernel_rfl

def Tryd.m59.p : Pln := ⟨[(3, ⟨[[0, 0, 1, 2, 0, 1], [0, 1, 1, 2, 0, 1], [3, 0, 1]], [], 0, ⟨[], []⟩⟩)], 0, ⟨[.fd (.int .i64), .fd (.int .i64)], []⟩, ⟨[.fd (.int .i64), .fd (.int .i64), .fd .bool], []⟩, true, [(2, ⟨[(0, true), (1, true), (2, true), (3, true), (4, true), (5, true), (6, true), (7, true), (8, true)], [], [0, 0, 3, 0, 0, 24, 7, 127, 255], false⟩)], []⟩
noncomputable def Tryd.m59.E : Env En.Dop.D7 := envOf Tryd.prog 59 Tryd.tb [] Tryd.m59.p
theorem Tryd.m59.ok : plnOk En.Dop.D7 Tryd.prog 59 Tryd.m59.p = true := by kernel_rfl
noncomputable def Tryd.m59.c : Ctr En.Dop.D7 := ⟨59, Tryd.m59.p.bn, Tryd.m59.p.sp, Tryd.m59.p.rs, Tryd.m59.p.flat, .opt (Tryd.m59.E.run 3000 Tryd.m59.p.sp)⟩
theorem Tryd.m59.holds : Tryd.m59.c.Holds Tryd.prog := fun_ctr 3000 Tryd.tbOk hct_nil Tryd.m59.ok
noncomputable def Tryd.m59 (a : Int) (b : Int) : Option (Spec.D En.Dop.D7 ⟨[.fd (.int .i64), .fd (.int .i64), .fd .bool], []⟩) := Tryd.m59.E.run 3000 Tryd.m59.p.sp ((a, b, ()), ())
noncomputable def Tryd.m59_3 : Option (Spec.D En.Dop.D7 ⟨[.fd (.int .i64), .fd (.int .i64), .fd .bool], []⟩) := Tryd.m59.E.cut 3000 3 ((), ())
theorem Tryd.m59_eq (a : Int) (b : Int) : Tryd.m59 a b =
  if (decide (b = (0 : Int))) = true then
   Tryd.m59_3
  else
   if (decide (b ≠ (0 : Int) ∧ inR (a.tdiv b) = true)) = true then
   if (decide (b ≠ (0 : Int))) = true then
   some ((a.tdiv b, (a.tmod b, (true, ()))), ())
   else none
   else none := by kernel_rfl
theorem Tryd.m59_3_eq : Tryd.m59_3 =
  some (((0 : Int), ((0 : Int), (false, ()))), ()) := Env.cut_eq' (E := Tryd.m59.E) (f0 := 3000) (c := 3) (q := ⟨[[0, 0, 1, 2, 0, 1], [0, 1, 1, 2, 0, 1], [3, 0, 1]], [], 0, ⟨[], []⟩⟩) (by kernel_rfl) ((), ()) (by kernel_rfl) (by kernel_rfl)

def Tryd.m60.p : Pln := ⟨[], 0, ⟨[.fd .bool], []⟩, ⟨[.fd (.int .i64)], []⟩, true, [], []⟩
noncomputable def Tryd.m60.E : Env En.Dop.D7 := envOf Tryd.prog 60 Tryd.tb [] Tryd.m60.p
theorem Tryd.m60.ok : plnOk En.Dop.D7 Tryd.prog 60 Tryd.m60.p = true := by kernel_rfl
noncomputable def Tryd.m60.c : Ctr En.Dop.D7 := ⟨60, Tryd.m60.p.bn, Tryd.m60.p.sp, Tryd.m60.p.rs, Tryd.m60.p.flat, .opt (Tryd.m60.E.run 3000 Tryd.m60.p.sp)⟩
theorem Tryd.m60.holds : Tryd.m60.c.Holds Tryd.prog := fun_ctr 3000 Tryd.tbOk hct_nil Tryd.m60.ok
noncomputable def Tryd.m60 (is : Bool) : Option (Spec.D En.Dop.D7 ⟨[.fd (.int .i64)], []⟩) := Tryd.m60.E.run 3000 Tryd.m60.p.sp ((is, ()), ())
theorem Tryd.m60_eq (is : Bool) : Tryd.m60 is =
  if (is) = true then
   some (((1 : Int), ()), ())
  else
   some (((0 : Int), ()), ()) := by kernel_rfl

def Tryd.m44.p : Pln := ⟨[(12, ⟨[[0, 0, 0, 1, 1, 1, 1, 1, 1, 1, 0, 1, 0, 1, 1, 1], [0, 1, 0, 1, 1, 1, 1, 1, 1, 1, 0, 1, 0, 1, 1, 1], [1, 0], [0, 1, 1, 1, 1]], [0, 1, 2], 0, ⟨[.fd (.int .i64), .fd (.int .i64), .fd (.int .i64)], []⟩⟩), (16, ⟨[[0, 0, 0, 1, 1, 1, 1, 1, 1, 1, 1, 0, 1, 0, 1, 1, 1], [0, 1, 0, 1, 1, 1, 1, 1, 1, 1, 1, 0, 1, 0, 1, 1, 1], [0, 1, 1, 1, 1, 1, 1, 1, 1, 1, 0, 1, 0, 1, 1, 1], [1, 0], [0, 1, 1, 1, 1]], [0, 1, 2, 8, 19], 0, ⟨[.fd (.int .i64), .fd (.int .i64), .fd (.int .i64), .fn 58 [], .fd (.int .i64)], []⟩⟩), (15, ⟨[[0, 0, 1, 1, 0, 1, 1, 1, 1, 1, 1, 1, 0, 1, 0, 1, 1, 1], [0, 1, 1, 1, 0, 1, 1, 1, 1, 1, 1, 1, 0, 1, 0, 1, 1, 1], [1, 0], [0, 1, 1, 1, 1]], [9, 11], 0, ⟨[.fd (.int .i64), .fd .bool], []⟩⟩), (18, ⟨[[0, 0, 0, 1, 1, 1, 1, 1, 1, 1, 1, 1, 0, 1, 0, 1, 1, 1], [0, 1, 0, 1, 1, 1, 1, 1, 1, 1, 1, 1, 0, 1, 0, 1, 1, 1], [1, 0], [0, 1, 1, 1, 1]], [0, 1, 2], 0, ⟨[.fd (.int .i64), .fd (.int .i64), .fd (.int .i64)], []⟩⟩), (22, ⟨[[0, 0, 1, 1, 1, 1, 1, 1, 1, 1, 1, 1, 0, 1, 0, 1, 1, 1], [0, 1, 1, 1, 1, 1, 1, 1, 1, 1, 1, 1, 0, 1, 0, 1, 1, 1], [1, 0], [0, 1, 1, 1, 1]], [1, 2, 8, 19], 0, ⟨[.fd (.int .i64), .fd (.int .i64), .fn 58 [], .fd (.int .i64)], []⟩⟩), (21, ⟨[[0, 0, 1, 1, 0, 1, 1, 1, 1, 1, 1, 1, 1, 1, 0, 1, 0, 1, 1, 1], [0, 1, 1, 1, 0, 1, 1, 1, 1, 1, 1, 1, 1, 1, 0, 1, 0, 1, 1, 1], [1, 0], [0, 1, 1, 1, 1]], [12, 14], 0, ⟨[.fd (.int .i64), .fd .bool], []⟩⟩)], 0, ⟨[.fd (.int .i64), .fd (.int .i64), .fd (.int .i64)], []⟩, ⟨[.fd (.int .i64), .fd .bool], []⟩, true, [], []⟩
noncomputable def Tryd.m44.E : Env En.Dop.D7 := envOf Tryd.prog 44 Tryd.tb [Tryd.m36.c, Tryd.m58.c, Tryd.m59.c, Tryd.m42.c, Tryd.m60.c] Tryd.m44.p
theorem Tryd.m44.ok : plnOk En.Dop.D7 Tryd.prog 44 Tryd.m44.p = true := by kernel_rfl
noncomputable def Tryd.m44.c : Ctr En.Dop.D7 := ⟨44, Tryd.m44.p.bn, Tryd.m44.p.sp, Tryd.m44.p.rs, Tryd.m44.p.flat, .opt (Tryd.m44.E.run 3000 Tryd.m44.p.sp)⟩
theorem Tryd.m44.holds : Tryd.m44.c.Holds Tryd.prog := fun_ctr 3000 Tryd.tbOk (hct_cons Tryd.m36.holds (hct_cons Tryd.m58.holds (hct_cons Tryd.m59.holds (hct_cons Tryd.m42.holds (hct_cons Tryd.m60.holds hct_nil))))) Tryd.m44.ok
noncomputable def Tryd.m44 (o : Int) (t1 : Int) (t2 : Int) : Option (Spec.D En.Dop.D7 ⟨[.fd (.int .i64), .fd .bool], []⟩) := Tryd.m44.E.run 3000 Tryd.m44.p.sp ((o, t1, t2, ()), ())
noncomputable def Tryd.m44_12 (o : Int) (t1 : Int) (t2 : Int) : Option (Spec.D En.Dop.D7 ⟨[.fd (.int .i64), .fd .bool], []⟩) := Tryd.m44.E.cut 3000 12 ((o, t1, t2, ()), ())
noncomputable def Tryd.m44_16 (o : Int) (t1 : Int) (t2 : Int) (t19 : Int) : Option (Spec.D En.Dop.D7 ⟨[.fd (.int .i64), .fd .bool], []⟩) := Tryd.m44.E.cut 3000 16 ((o, t1, t2, (), t19, ()), ())
noncomputable def Tryd.m44_15 (t9 : Int) (t11 : Bool) : Option (Spec.D En.Dop.D7 ⟨[.fd (.int .i64), .fd .bool], []⟩) := Tryd.m44.E.cut 3000 15 ((t9, t11, ()), ())
noncomputable def Tryd.m44_18 (o : Int) (t1 : Int) (t2 : Int) : Option (Spec.D En.Dop.D7 ⟨[.fd (.int .i64), .fd .bool], []⟩) := Tryd.m44.E.cut 3000 18 ((o, t1, t2, ()), ())
noncomputable def Tryd.m44_22 (t1 : Int) (t2 : Int) (t19 : Int) : Option (Spec.D En.Dop.D7 ⟨[.fd (.int .i64), .fd .bool], []⟩) := Tryd.m44.E.cut 3000 22 ((t1, t2, (), t19, ()), ())
noncomputable def Tryd.m44_21 (t12 : Int) (t14 : Bool) : Option (Spec.D En.Dop.D7 ⟨[.fd (.int .i64), .fd .bool], []⟩) := Tryd.m44.E.cut 3000 21 ((t12, t14, ()), ())
theorem Tryd.m44_eq (o : Int) (t1 : Int) (t2 : Int) : Tryd.m44 o t1 t2 =
  (Tryd.m36 (t1)).bind fun y2 =>
   (Tryd.m36 (t2)).bind fun y3 =>
    if (decide (o = (1 : Int))) = true then
     if (inR (y2.fst.fst + y3.fst.fst)) = true then
     (Tryd.m58 (y2.fst.fst + y3.fst.fst)).bind fun y5 =>
      some ((y5.fst.fst, (y5.fst.snd.fst, ())), ())
     else none
    else
     if (decide (o = (2 : Int))) = true then
      if (inR (y2.fst.fst - y3.fst.fst)) = true then
      (Tryd.m58 (y2.fst.fst - y3.fst.fst)).bind fun y6 =>
       some ((y6.fst.fst, (y6.fst.snd.fst, ())), ())
      else none
     else
      if (decide (o = (3 : Int))) = true then
       if (inR (y2.fst.fst * y3.fst.fst)) = true then
       (Tryd.m58 (y2.fst.fst * y3.fst.fst)).bind fun y7 =>
        some ((y7.fst.fst, (y7.fst.snd.fst, ())), ())
       else none
      else
       if (decide (o = (4 : Int))) = true then
        if (decide (o = (4 : Int))) = true then
         Tryd.m44_12 (o) (y2.fst.fst) (y3.fst.fst)
        else
         Tryd.m44_16 (o) (y2.fst.fst) (y3.fst.fst) (o)
       else
        if (decide (o = (5 : Int))) = true then
         Tryd.m44_12 (o) (y2.fst.fst) (y3.fst.fst)
        else
         Tryd.m44_16 (o) (y2.fst.fst) (y3.fst.fst) (o) := by kernel_rfl
theorem Tryd.m44_12_eq (o : Int) (t1 : Int) (t2 : Int) : Tryd.m44_12 o t1 t2 =
  (Tryd.m59 (t1) (t2)).bind fun y2 =>
   if (decide (o = (5 : Int))) = true then
    Tryd.m44_15 (y2.fst.snd.fst) (y2.fst.snd.snd.fst)
   else
    Tryd.m44_15 (y2.fst.fst) (y2.fst.snd.snd.fst) := Env.cut_eq' (E := Tryd.m44.E) (f0 := 3000) (c := 12) (q := ⟨[[0, 0, 0, 1, 1, 1, 1, 1, 1, 1, 0, 1, 0, 1, 1, 1], [0, 1, 0, 1, 1, 1, 1, 1, 1, 1, 0, 1, 0, 1, 1, 1], [1, 0], [0, 1, 1, 1, 1]], [0, 1, 2], 0, ⟨[.fd (.int .i64), .fd (.int .i64), .fd (.int .i64)], []⟩⟩) (by kernel_rfl) ((o, t1, t2, ()), ()) (by kernel_rfl) (by kernel_rfl)
theorem Tryd.m44_16_eq (o : Int) (t1 : Int) (t2 : Int) (t19 : Int) : Tryd.m44_16 o t1 t2 t19 =
  if (decide (t19 = (6 : Int))) = true then
   if (decide (t19 = (6 : Int))) = true then
    Tryd.m44_18 (o) (t1) (t2)
   else
    Tryd.m44_22 (t1) (t2) (t19)
  else
   if (decide (t19 = (7 : Int))) = true then
    Tryd.m44_18 (o) (t1) (t2)
   else
    Tryd.m44_22 (t1) (t2) (t19) := Env.cut_eq' (E := Tryd.m44.E) (f0 := 3000) (c := 16) (q := ⟨[[0, 0, 0, 1, 1, 1, 1, 1, 1, 1, 1, 0, 1, 0, 1, 1, 1], [0, 1, 0, 1, 1, 1, 1, 1, 1, 1, 1, 0, 1, 0, 1, 1, 1], [0, 1, 1, 1, 1, 1, 1, 1, 1, 1, 0, 1, 0, 1, 1, 1], [1, 0], [0, 1, 1, 1, 1]], [0, 1, 2, 8, 19], 0, ⟨[.fd (.int .i64), .fd (.int .i64), .fd (.int .i64), .fn 58 [], .fd (.int .i64)], []⟩⟩) (by kernel_rfl) ((o, t1, t2, (), t19, ()), ()) (by kernel_rfl) (by kernel_rfl)
theorem Tryd.m44_15_eq (t9 : Int) (t11 : Bool) : Tryd.m44_15 t9 t11 =
  (Tryd.m36 (t9)).bind fun y2 =>
   some ((y2.fst.fst, (t11, ())), ()) := Env.cut_eq' (E := Tryd.m44.E) (f0 := 3000) (c := 15) (q := ⟨[[0, 0, 1, 1, 0, 1, 1, 1, 1, 1, 1, 1, 0, 1, 0, 1, 1, 1], [0, 1, 1, 1, 0, 1, 1, 1, 1, 1, 1, 1, 0, 1, 0, 1, 1, 1], [1, 0], [0, 1, 1, 1, 1]], [9, 11], 0, ⟨[.fd (.int .i64), .fd .bool], []⟩⟩) (by kernel_rfl) ((t9, t11, ()), ()) (by kernel_rfl) (by kernel_rfl)
theorem Tryd.m44_18_eq (o : Int) (t1 : Int) (t2 : Int) : Tryd.m44_18 o t1 t2 =
  (Tryd.m42 (t1)).bind fun y2 =>
   (Tryd.m42 (t2)).bind fun y3 =>
    (Tryd.m59 (y2.fst.fst) (y3.fst.fst)).bind fun y4 =>
     if (decide (o = (7 : Int))) = true then
      Tryd.m44_21 (y4.fst.snd.fst) (y4.fst.snd.snd.fst)
     else
      Tryd.m44_21 (y4.fst.fst) (y4.fst.snd.snd.fst) := Env.cut_eq' (E := Tryd.m44.E) (f0 := 3000) (c := 18) (q := ⟨[[0, 0, 0, 1, 1, 1, 1, 1, 1, 1, 1, 1, 0, 1, 0, 1, 1, 1], [0, 1, 0, 1, 1, 1, 1, 1, 1, 1, 1, 1, 0, 1, 0, 1, 1, 1], [1, 0], [0, 1, 1, 1, 1]], [0, 1, 2], 0, ⟨[.fd (.int .i64), .fd (.int .i64), .fd (.int .i64)], []⟩⟩) (by kernel_rfl) ((o, t1, t2, ()), ()) (by kernel_rfl) (by kernel_rfl)
theorem Tryd.m44_22_eq (t1 : Int) (t2 : Int) (t19 : Int) : Tryd.m44_22 t1 t2 t19 =
  if (decide (t19 = (8 : Int))) = true then
   (Tryd.m58 (bits BinOp.and IntKind.i64 t1 t2)).bind fun y3 =>
    some ((y3.fst.fst, (y3.fst.snd.fst, ())), ())
  else
   if (decide (t19 = (9 : Int))) = true then
    (Tryd.m58 (bits BinOp.or IntKind.i64 t1 t2)).bind fun y4 =>
     some ((y4.fst.fst, (y4.fst.snd.fst, ())), ())
   else
    if (decide (t19 = (10 : Int))) = true then
     (Tryd.m58 (bits BinOp.xor IntKind.i64 t1 t2)).bind fun y5 =>
      some ((y5.fst.fst, (y5.fst.snd.fst, ())), ())
    else
     if (decide (t19 = (11 : Int))) = true then
      if (decide ((0 : Int) ≤ bits BinOp.and IntKind.i64 t2 (31 : Int) ∧ bits BinOp.and IntKind.i64 t2 (31 : Int) ≤ I IntKind.i64.bits)) = true then
      (Tryd.m58 (IntKind.i64.wrap (t1 * (2 : Int) ^ (bits BinOp.and IntKind.i64 t2 (31 : Int)).toNat))).bind fun y6 =>
       some ((y6.fst.fst, (y6.fst.snd.fst, ())), ())
      else none
     else
      if (decide (t19 = (12 : Int))) = true then
       if (decide ((0 : Int) ≤ bits BinOp.and IntKind.i64 t2 (31 : Int) ∧ bits BinOp.and IntKind.i64 t2 (31 : Int) ≤ I IntKind.i64.bits)) = true then
       (Tryd.m58 (t1 / (2 : Int) ^ (bits BinOp.and IntKind.i64 t2 (31 : Int)).toNat)).bind fun y7 =>
        some ((y7.fst.fst, (y7.fst.snd.fst, ())), ())
       else none
      else
       if (decide (t19 = (13 : Int))) = true then
        (Tryd.m42 (t1)).bind fun y8 =>
         if (decide ((0 : Int) ≤ bits BinOp.and IntKind.i64 t2 (31 : Int) ∧ bits BinOp.and IntKind.i64 t2 (31 : Int) ≤ I IntKind.i64.bits)) = true then
         (Tryd.m58 (y8.fst.fst / (2 : Int) ^ (bits BinOp.and IntKind.i64 t2 (31 : Int)).toNat)).bind fun y9 =>
          some ((y9.fst.fst, (y9.fst.snd.fst, ())), ())
         else none
       else
        if (decide (t19 = (14 : Int))) = true then
         (Tryd.m60 (decide (t1 = t2))).bind fun y9 =>
          (Tryd.m58 (y9.fst.fst)).bind fun y10 =>
           some ((y10.fst.fst, (y10.fst.snd.fst, ())), ())
        else
         if (decide (t19 = (15 : Int))) = true then
          (Tryd.m60 (!decide (t1 = t2))).bind fun y10 =>
           (Tryd.m58 (y10.fst.fst)).bind fun y11 =>
            some ((y11.fst.fst, (y11.fst.snd.fst, ())), ())
         else
          if (decide (t19 = (16 : Int))) = true then
           (Tryd.m60 (decide (t1 < t2))).bind fun y11 =>
            (Tryd.m58 (y11.fst.fst)).bind fun y12 =>
             some ((y12.fst.fst, (y12.fst.snd.fst, ())), ())
          else
           if (decide (t19 = (17 : Int))) = true then
            (Tryd.m60 (decide (t1 ≤ t2))).bind fun y12 =>
             (Tryd.m58 (y12.fst.fst)).bind fun y13 =>
              some ((y13.fst.fst, (y13.fst.snd.fst, ())), ())
           else
            if (decide (t19 = (18 : Int))) = true then
             (Tryd.m42 (t1)).bind fun y13 =>
              (Tryd.m42 (t2)).bind fun y14 =>
               (Tryd.m60 (decide (y13.fst.fst < y14.fst.fst))).bind fun y15 =>
                (Tryd.m58 (y15.fst.fst)).bind fun y16 =>
                 some ((y16.fst.fst, (y16.fst.snd.fst, ())), ())
            else
             if (decide (t19 = (19 : Int))) = true then
              (Tryd.m42 (t1)).bind fun y14 =>
               (Tryd.m42 (t2)).bind fun y15 =>
                (Tryd.m60 (decide (y14.fst.fst ≤ y15.fst.fst))).bind fun y16 =>
                 (Tryd.m58 (y16.fst.fst)).bind fun y17 =>
                  some ((y17.fst.fst, (y17.fst.snd.fst, ())), ())
             else
              if (decide (t19 = (20 : Int))) = true then
               if (inR (-t1)) = true then
               (Tryd.m58 (-t1)).bind fun y15 =>
                some ((y15.fst.fst, (y15.fst.snd.fst, ())), ())
               else none
              else
               if (decide (t19 = (21 : Int))) = true then
                (Tryd.m58 (bits BinOp.xor IntKind.i64 (-1 : Int) t1)).bind fun y16 =>
                 some ((y16.fst.fst, (y16.fst.snd.fst, ())), ())
               else
                if (decide (t19 = (22 : Int))) = true then
                 (Tryd.m58 (bits BinOp.and IntKind.i64 t1 (255 : Int))).bind fun y17 =>
                  some ((y17.fst.fst, (y17.fst.snd.fst, ())), ())
                else
                 if (decide (t19 = (23 : Int))) = true then
                  (Tryd.m60 (decide (t1 = (0 : Int)))).bind fun y18 =>
                   (Tryd.m58 (y18.fst.fst)).bind fun y19 =>
                    some ((y19.fst.fst, (y19.fst.snd.fst, ())), ())
                 else
                  some (((0 : Int), (false, ())), ()) := Env.cut_eq' (E := Tryd.m44.E) (f0 := 3000) (c := 22) (q := ⟨[[0, 0, 1, 1, 1, 1, 1, 1, 1, 1, 1, 1, 0, 1, 0, 1, 1, 1], [0, 1, 1, 1, 1, 1, 1, 1, 1, 1, 1, 1, 0, 1, 0, 1, 1, 1], [1, 0], [0, 1, 1, 1, 1]], [1, 2, 8, 19], 0, ⟨[.fd (.int .i64), .fd (.int .i64), .fn 58 [], .fd (.int .i64)], []⟩⟩) (by kernel_rfl) ((t1, t2, (), t19, ()), ()) (by kernel_rfl) (by kernel_rfl)
theorem Tryd.m44_21_eq (t12 : Int) (t14 : Bool) : Tryd.m44_21 t12 t14 =
  (Tryd.m36 (t12)).bind fun y2 =>
   some ((y2.fst.fst, (t14, ())), ()) := Env.cut_eq' (E := Tryd.m44.E) (f0 := 3000) (c := 21) (q := ⟨[[0, 0, 1, 1, 0, 1, 1, 1, 1, 1, 1, 1, 1, 1, 0, 1, 0, 1, 1, 1], [0, 1, 1, 1, 0, 1, 1, 1, 1, 1, 1, 1, 1, 1, 0, 1, 0, 1, 1, 1], [1, 0], [0, 1, 1, 1, 1]], [12, 14], 0, ⟨[.fd (.int .i64), .fd .bool], []⟩⟩) (by kernel_rfl) ((t12, t14, ()), ()) (by kernel_rfl) (by kernel_rfl)

def Tryd.m21.p : Pln := ⟨[(8, ⟨[[0, 0, 1, 1, 0, 1, 1, 1, 1], [0, 1, 1, 1, 0, 1, 1, 1, 1], [1, 0]], [0, 2, 3, 37], 3, ⟨[.al 0 0, .ep 1 9 0, .al 2 0, .fd (.int .i64)], [⟨0, 64, [.mp (.str) 4 true, .own 0 3, .fd (.int .i64), .fd (.sl 2), .rw 1, .fd .bool, .fd (.int .i64), .fd (.int .i64), .own 2 5], false⟩, ⟨1, 0, [.dp 7 75], true⟩, ⟨2, 30, [.st 3], false⟩]⟩⟩), (11, ⟨[[0, 0, 0, 0, 1, 0, 1, 0, 1, 1, 1, 0, 1, 1, 1, 1], [0, 1, 0, 0, 1, 0, 1, 0, 1, 1, 1, 0, 1, 1, 1, 1], [2, 0, 0, 1, 0, 1, 0, 1, 1, 1, 0, 1, 1, 1, 1], [1, 1], [0, 1, 1, 0, 1, 1, 1, 0, 1, 1, 1, 1], [1, 0]], [0, 2, 3, 4, 52, 53, 54], 3, ⟨[.al 0 0, .ep 1 9 0, .al 2 0, .own 0 3, .own 0 3, .fd (.int .i64), .fd (.int .i64)], [⟨0, 64, [.mp (.str) 4 true, .own 0 3, .fd (.int .i64), .fd (.sl 2), .rw 1, .fd .bool, .fd (.int .i64), .fd (.int .i64), .own 2 5], false⟩, ⟨1, 0, [.dp 7 75], true⟩, ⟨2, 30, [.st 3], false⟩]⟩⟩)], 1, ⟨[.al 0 0], [⟨0, 64, [.mp (.str) 4 true, .own 0 3, .st 0, .fd (.sl 2), .dp 7 75, .fd .bool, .st 0, .st 0, .own 2 5], false⟩]⟩, ⟨[], [⟨0, 64, [.mp (.str) 4 true, .own 0 3, .fd (.int .i64), .fd (.sl 2), .dp 7 75, .fd .bool, .fd (.int .i64), .fd (.int .i64), .own 2 5], false⟩]⟩, false, [(0, ⟨[(0, true), (1, true), (2, true), (3, false), (4, true), (5, true), (6, true), (7, false), (8, false), (9, true), (10, false), (11, true)], [], [0, 1, 3, 7, 0, 16, 48, 112, 240, 496, 1023, 2047], false⟩), (1, ⟨[(0, true), (1, false), (2, false), (3, false), (4, false), (5, true), (6, false), (7, false), (8, false), (9, false), (10, false), (11, false)], [12], [0, 1, 3, 7, 15, 0, 32, 96, 224, 511, 1023, 0, 4095], false⟩), (15, ⟨[(0, true), (1, true), (2, true), (3, true), (4, false), (5, true), (6, false), (7, false), (8, true), (9, false), (10, true)], [11], [0, 0, 2, 6, 14, 0, 32, 126, 0, 256, 0, 2047], true⟩), (17, ⟨[(0, true), (1, false), (2, false), (3, false), (4, true), (5, false), (6, false)], [7], [0, 1, 3, 7, 0, 16, 63, 127], false⟩), (19, ⟨[(0, true), (1, false), (2, false), (3, false), (4, true), (5, false), (6, true), (7, true), (8, true), (9, true), (10, false), (11, false), (12, false), (13, true), (14, true), (15, true), (16, true), (17, false), (18, true), (19, false)], [20, 21, 22, 23], [0, 1, 3, 7, 0, 16, 0, 0, 128, 384, 896, 1920, 3968, 8064, 0, 16384, 49152, 114688, 245760, 262079, 786367, 2097151, 4194303, 8388607], false⟩), (21, ⟨[(0, true), (1, true), (2, true), (3, true), (4, true), (5, false), (6, true), (7, false), (8, false), (9, false), (10, true), (11, false), (12, false), (13, false), (14, true), (15, false)], [16, 17, 18, 19, 20], [0, 0, 2, 6, 14, 30, 0, 64, 192, 448, 0, 1024, 4032, 8128, 16320, 32704, 65534, 131071, 262143, 524287, 1048575], false⟩), (26, ⟨[(0, true), (1, false), (2, false), (3, false), (4, true), (5, false), (6, false), (7, false), (8, true)], [], [0, 1, 3, 7, 0, 16, 63, 127, 255], false⟩), (29, ⟨[(0, true), (1, true), (2, false), (3, false), (4, false), (5, true), (6, false), (7, false), (8, false)], [9], [0, 0, 2, 6, 14, 0, 32, 126, 254, 511], false⟩)], [(32, [(1, ⟨[(0, true), (1, true), (2, true), (3, false), (4, true), (5, false), (6, false), (7, false), (8, false), (9, true)], [], [0, 1, 3, 7, 0, 16, 63, 127, 255, 511], false⟩), (6, ⟨[(0, true), (1, true), (2, true), (3, false), (4, true), (5, false), (6, true), (7, true), (8, true), (9, false), (10, true), (11, false), (12, false), (13, false)], [14], [0, 1, 3, 7, 0, 16, 0, 64, 192, 448, 0, 1984, 4032, 8191, 16383], false⟩), (2, ⟨[(0, true), (1, true), (2, true), (3, false), (4, true), (5, true), (6, true), (7, true), (8, false), (9, true), (10, false), (11, false), (12, false), (13, false)], [14], [0, 1, 3, 7, 0, 0, 32, 96, 224, 0, 512, 2016, 4064, 8191, 16383], false⟩)]), (22, []), (20, [(1, ⟨[(0, true), (1, true), (2, true), (3, false), (4, true), (5, false), (6, true), (7, true), (8, true), (9, true), (10, false), (11, false), (12, true)], [], [0, 1, 3, 7, 0, 16, 63, 0, 128, 384, 896, 1920, 4095], false⟩), (3, ⟨[(0, false), (1, true), (2, false), (3, false), (4, true), (5, true), (6, true), (7, false), (8, true), (9, true), (10, false)], [11], [0, 0, 2, 6, 0, 16, 48, 112, 0, 511, 0, 2047], false⟩), (5, ⟨[(0, true), (1, true), (2, true), (3, false), (4, true), (5, false), (6, true), (7, true), (8, true)], [9], [0, 1, 3, 7, 0, 16, 63, 127, 255, 511], false⟩), (6, ⟨[(0, true), (1, true), (2, true), (3, true), (4, false), (5, false), (6, false)], [7, 8, 9, 10], [0, 0, 2, 6, 14, 0, 32, 126, 255, 511, 1023], false⟩)]), (34, [(0, ⟨[(0, true), (1, true), (2, true), (3, false), (4, true), (5, true), (6, true), (7, false), (8, false), (9, true), (10, false), (11, false), (12, false)], [13], [0, 1, 3, 7, 0, 16, 48, 112, 240, 496, 1023, 2047, 0, 8191], false⟩), (1, ⟨[(0, true), (1, true), (2, true), (3, false), (4, true), (5, true), (6, false), (7, true), (8, true), (9, true)], [10], [0, 1, 3, 7, 0, 16, 48, 127, 255, 511, 1023], false⟩), (2, ⟨[(0, true), (1, true), (2, true), (3, true), (4, false), (5, true), (6, true), (7, true), (8, false), (9, false), (10, true)], [11, 12, 13, 14], [0, 0, 2, 6, 14, 0, 32, 96, 224, 480, 992, 2046, 4095, 8191, 16383], false⟩), (6, ⟨[(0, true), (1, true), (2, true), (3, false), (4, true), (5, true), (6, true), (7, false), (8, false), (9, true), (10, false), (11, false), (12, false), (13, true), (14, false), (15, true), (16, false)], [17], [0, 1, 3, 7, 0, 16, 48, 112, 240, 496, 1023, 2047, 4095, 0, 8192, 0, 65535, 131071], false⟩)]), (35, [(3, ⟨[(0, true), (1, true), (2, true), (3, false), (4, true), (5, false), (6, true), (7, false), (8, false)], [9], [0, 1, 3, 7, 0, 16, 0, 64, 255, 511], false⟩), (5, ⟨[(0, true), (1, true), (2, true), (3, false), (4, true), (5, false), (6, true), (7, true), (8, true), (9, false), (10, true), (11, false), (12, false), (13, false), (14, false)], [15], [0, 1, 3, 7, 0, 16, 0, 64, 192, 448, 0, 1024, 4032, 8128, 16383, 32767], false⟩), (7, ⟨[(0, true), (1, true), (2, true), (3, false), (4, true), (5, false), (6, true), (7, true), (8, true), (9, false), (10, true), (11, false), (12, true), (13, false), (14, false)], [15], [0, 1, 3, 7, 0, 16, 0, 64, 192, 448, 0, 1024, 4032, 8128, 16383, 32767], false⟩), (12, ⟨[(0, true), (1, true), (2, true), (3, false), (4, true), (5, false), (6, false), (7, false), (8, true)], [], [0, 1, 3, 7, 0, 16, 63, 127, 255], false⟩), (13, ⟨[(0, true), (1, false), (2, true), (3, true), (4, true), (5, false), (6, true), (7, false), (8, false), (9, false), (10, true), (11, false), (12, true), (13, true), (14, true), (15, true), (16, true)], [], [0, 1, 0, 4, 12, 28, 0, 64, 252, 508, 0, 2047, 4095, 8191, 8191, 16383, 65535], false⟩), (16, ⟨[(0, true), (1, true), (2, true), (3, false), (4, true), (5, false), (6, true), (7, false)], [8], [0, 1, 3, 7, 0, 16, 0, 127, 255], false⟩)])]⟩
noncomputable def Tryd.m21.E : Env En.Dop.D7 := envOf Tryd.prog 21 Tryd.tb [Tryd.m42.c, Tryd.m33.c, Tryd.m36.c, Tryd.m44.c] Tryd.m21.p
theorem Tryd.m21.ok : plnOk En.Dop.D7 Tryd.prog 21 Tryd.m21.p = true := by kernel_rfl
noncomputable def Tryd.m21.c : Ctr En.Dop.D7 := ⟨21, Tryd.m21.p.bn, Tryd.m21.p.sp, Tryd.m21.p.rs, Tryd.m21.p.flat, .opt (Tryd.m21.E.run 3000 Tryd.m21.p.sp)⟩
theorem Tryd.m21.holds : Tryd.m21.c.Holds Tryd.prog := fun_ctr 3000 Tryd.tbOk (hct_cons Tryd.m42.holds (hct_cons Tryd.m33.holds (hct_cons Tryd.m36.holds (hct_cons Tryd.m44.holds hct_nil)))) Tryd.m21.ok
noncomputable def Tryd.m21 (b0_0 : List (List UInt8 × En.Dop.Fnc)) (b0_1 : List (Int)) (b0_2 : Int) (b0_3 : List (Int)) (b0_4 : List (En.Dop.Frm)) (b0_5 : Bool) (b0_6 : Int) (b0_7 : Int) (b0_8 : List (Int)) : Option (Spec.D En.Dop.D7 ⟨[], [⟨0, 64, [.mp (.str) 4 true, .own 0 3, .fd (.int .i64), .fd (.sl 2), .dp 7 75, .fd .bool, .fd (.int .i64), .fd (.int .i64), .own 2 5], false⟩]⟩) := Tryd.m21.E.run 3000 Tryd.m21.p.sp (((), ()), ((b0_0, b0_1, b0_2, b0_3, b0_4, b0_5, b0_6, b0_7, b0_8, ()), ()))
noncomputable def Tryd.m21_8 (t2 : Nat) (t37 : Int) (b0_0 : List (List UInt8 × En.Dop.Fnc)) (b0_1 : List (Int)) (b0_2 : Int) (b0_3 : List (Int)) (b0_5 : Bool) (b0_6 : Int) (b0_7 : Int) (b0_8 : List (Int)) (b1 : List (En.Dop.Frm)) (b2 : En.Dop.Ins) : Option (Spec.D En.Dop.D7 ⟨[], [⟨0, 64, [.mp (.str) 4 true, .own 0 3, .fd (.int .i64), .fd (.sl 2), .dp 7 75, .fd .bool, .fd (.int .i64), .fd (.int .i64), .own 2 5], false⟩]⟩) := Tryd.m21.E.cut 3000 8 (((), t2, (), t37, ()), ((b0_0, b0_1, b0_2, b0_3, (), b0_5, b0_6, b0_7, b0_8, ()), (b1, ()), (b2, ()), ()))
noncomputable def Tryd.m21_11 (t2 : Nat) (t4 : List (Int)) (t52 : List (Int)) (t53 : Int) (t54 : Int) (b0_0 : List (List UInt8 × En.Dop.Fnc)) (b0_1 : List (Int)) (b0_2 : Int) (b0_3 : List (Int)) (b0_5 : Bool) (b0_6 : Int) (b0_7 : Int) (b0_8 : List (Int)) (b1 : List (En.Dop.Frm)) (b2 : En.Dop.Ins) : Option (Spec.D En.Dop.D7 ⟨[], [⟨0, 64, [.mp (.str) 4 true, .own 0 3, .fd (.int .i64), .fd (.sl 2), .dp 7 75, .fd .bool, .fd (.int .i64), .fd (.int .i64), .own 2 5], false⟩]⟩) := Tryd.m21.E.cut 3000 11 (((), t2, (), t4, t52, t53, t54, ()), ((b0_0, b0_1, b0_2, b0_3, (), b0_5, b0_6, b0_7, b0_8, ()), (b1, ()), (b2, ()), ()))
theorem Tryd.m21_eq (b0_0 : List (List UInt8 × En.Dop.Fnc)) (b0_1 : List (Int)) (b0_2 : Int) (b0_3 : List (Int)) (b0_4 : List (En.Dop.Frm)) (b0_5 : Bool) (b0_6 : Int) (b0_7 : Int) (b0_8 : List (Int)) : Tryd.m21 b0_0 b0_1 b0_2 b0_3 b0_4 b0_5 b0_6 b0_7 b0_8 =
  if (inR (I b0_4.length - (1 : Int))) = true then
  if (decide ((0 : Int) ≤ I b0_4.length - (1 : Int) ∧ I b0_4.length - (1 : Int) < I b0_4.length)) = true then
  if (decide ((I b0_4.length - (1 : Int)).toNat < b0_4.length)) = true then
  if (decide ((I b0_4.length - (1 : Int)).toNat < b0_4.length)) = true then
  if (decide ((0 : Int) ≤ (@List.getD Dop.Frm b0_4 (I b0_4.length - (1 : Int)).toNat Dop.d7).at_ ∧ (@List.getD Dop.Frm b0_4 (I b0_4.length - (1 : Int)).toNat Dop.d7).at_ < I (@List.getD Dop.Frm b0_4 (I b0_4.length - (1 : Int)).toNat Dop.d7).f.code.length)) = true then
  if (decide ((I b0_4.length - (1 : Int)).toNat < b0_4.length)) = true then
  if (inR ((@List.getD Dop.Frm b0_4 (I b0_4.length - (1 : Int)).toNat Dop.d7).at_ + (1 : Int))) = true then
  if (decide ((I b0_4.length - (1 : Int)).toNat < b0_4.length)) = true then
  if (decide ((@List.getD Dop.Ins (@List.getD Dop.Frm b0_4 (I b0_4.length - (1 : Int)).toNat Dop.d7).f.code (@List.getD Dop.Frm b0_4 (I b0_4.length - (1 : Int)).toNat Dop.d7).at_.toNat Dop.d3).kind = (6 : Int))) = true then
   if (decide ((@List.getD Dop.Ins (@List.getD Dop.Frm b0_4 (I b0_4.length - (1 : Int)).toNat Dop.d7).f.code (@List.getD Dop.Frm b0_4 (I b0_4.length - (1 : Int)).toNat Dop.d7).at_.toNat Dop.d3).kind = (6 : Int))) = true then
    if (decide ((I b0_4.length - (1 : Int)).toNat < (b0_4.set (I b0_4.length - (1 : Int)).toNat (Dop.Frm.mk (@List.getD Dop.Frm b0_4 (I b0_4.length - (1 : Int)).toNat Dop.d7).f (@List.getD Dop.Frm b0_4 (I b0_4.length - (1 : Int)).toNat Dop.d7).regs (@List.getD Dop.Frm b0_4 (I b0_4.length - (1 : Int)).toNat Dop.d7).base ((@List.getD Dop.Frm b0_4 (I b0_4.length - (1 : Int)).toNat Dop.d7).at_ + (1 : Int)) (@List.getD Dop.Frm b0_4 (I b0_4.length - (1 : Int)).toNat Dop.d7).dst)).length)) = true then
    if (decide ((I b0_4.length - (1 : Int)).toNat < (b0_4.set (I b0_4.length - (1 : Int)).toNat (Dop.Frm.mk (@List.getD Dop.Frm b0_4 (I b0_4.length - (1 : Int)).toNat Dop.d7).f (@List.getD Dop.Frm b0_4 (I b0_4.length - (1 : Int)).toNat Dop.d7).regs (@List.getD Dop.Frm b0_4 (I b0_4.length - (1 : Int)).toNat Dop.d7).base ((@List.getD Dop.Frm b0_4 (I b0_4.length - (1 : Int)).toNat Dop.d7).at_ + (1 : Int)) (@List.getD Dop.Frm b0_4 (I b0_4.length - (1 : Int)).toNat Dop.d7).dst)).length ∧ (0 : Int) ≤ (@List.getD Dop.Ins (@List.getD Dop.Frm b0_4 (I b0_4.length - (1 : Int)).toNat Dop.d7).f.code (@List.getD Dop.Frm b0_4 (I b0_4.length - (1 : Int)).toNat Dop.d7).at_.toNat Dop.d3).a ∧ (@List.getD Dop.Ins (@List.getD Dop.Frm b0_4 (I b0_4.length - (1 : Int)).toNat Dop.d7).f.code (@List.getD Dop.Frm b0_4 (I b0_4.length - (1 : Int)).toNat Dop.d7).at_.toNat Dop.d3).a < I ((b0_4.set (I b0_4.length - (1 : Int)).toNat (Dop.Frm.mk (@List.getD Dop.Frm b0_4 (I b0_4.length - (1 : Int)).toNat Dop.d7).f (@List.getD Dop.Frm b0_4 (I b0_4.length - (1 : Int)).toNat Dop.d7).regs (@List.getD Dop.Frm b0_4 (I b0_4.length - (1 : Int)).toNat Dop.d7).base ((@List.getD Dop.Frm b0_4 (I b0_4.length - (1 : Int)).toNat Dop.d7).at_ + (1 : Int)) (@List.getD Dop.Frm b0_4 (I b0_4.length - (1 : Int)).toNat Dop.d7).dst)).getD (I b0_4.length - (1 : Int)).toNat Dop.d7).regs.length)) = true then
    if (decide ((I b0_4.length - (1 : Int)).toNat < (b0_4.set (I b0_4.length - (1 : Int)).toNat (Dop.Frm.mk (@List.getD Dop.Frm b0_4 (I b0_4.length - (1 : Int)).toNat Dop.d7).f (@List.getD Dop.Frm b0_4 (I b0_4.length - (1 : Int)).toNat Dop.d7).regs (@List.getD Dop.Frm b0_4 (I b0_4.length - (1 : Int)).toNat Dop.d7).base ((@List.getD Dop.Frm b0_4 (I b0_4.length - (1 : Int)).toNat Dop.d7).at_ + (1 : Int)) (@List.getD Dop.Frm b0_4 (I b0_4.length - (1 : Int)).toNat Dop.d7).dst)).length) && decide ((@List.getD Dop.Ins (@List.getD Dop.Frm b0_4 (I b0_4.length - (1 : Int)).toNat Dop.d7).f.code (@List.getD Dop.Frm b0_4 (I b0_4.length - (1 : Int)).toNat Dop.d7).at_.toNat Dop.d3).a.toNat < ((b0_4.set (I b0_4.length - (1 : Int)).toNat (Dop.Frm.mk (@List.getD Dop.Frm b0_4 (I b0_4.length - (1 : Int)).toNat Dop.d7).f (@List.getD Dop.Frm b0_4 (I b0_4.length - (1 : Int)).toNat Dop.d7).regs (@List.getD Dop.Frm b0_4 (I b0_4.length - (1 : Int)).toNat Dop.d7).base ((@List.getD Dop.Frm b0_4 (I b0_4.length - (1 : Int)).toNat Dop.d7).at_ + (1 : Int)) (@List.getD Dop.Frm b0_4 (I b0_4.length - (1 : Int)).toNat Dop.d7).dst)).getD (I b0_4.length - (1 : Int)).toNat Dop.d7).regs.length)) = true then
    (Tryd.m42 (((b0_4.set (I b0_4.length - (1 : Int)).toNat (Dop.Frm.mk (@List.getD Dop.Frm b0_4 (I b0_4.length - (1 : Int)).toNat Dop.d7).f (@List.getD Dop.Frm b0_4 (I b0_4.length - (1 : Int)).toNat Dop.d7).regs (@List.getD Dop.Frm b0_4 (I b0_4.length - (1 : Int)).toNat Dop.d7).base ((@List.getD Dop.Frm b0_4 (I b0_4.length - (1 : Int)).toNat Dop.d7).at_ + (1 : Int)) (@List.getD Dop.Frm b0_4 (I b0_4.length - (1 : Int)).toNat Dop.d7).dst)).getD (I b0_4.length - (1 : Int)).toNat Dop.d7).regs.getD (@List.getD Dop.Ins (@List.getD Dop.Frm b0_4 (I b0_4.length - (1 : Int)).toNat Dop.d7).f.code (@List.getD Dop.Frm b0_4 (I b0_4.length - (1 : Int)).toNat Dop.d7).at_.toNat Dop.d3).a.toNat (0 : Int))).bind fun y4 =>
     if (decide (y4.fst.fst < (1 : Int))) = true then
      some ((), ((b0_0, (b0_1, (b0_2, (b0_3, (b0_4.set (I b0_4.length - (1 : Int)).toNat (Dop.Frm.mk (@List.getD Dop.Frm b0_4 (I b0_4.length - (1 : Int)).toNat Dop.d7).f (@List.getD Dop.Frm b0_4 (I b0_4.length - (1 : Int)).toNat Dop.d7).regs (@List.getD Dop.Frm b0_4 (I b0_4.length - (1 : Int)).toNat Dop.d7).base ((@List.getD Dop.Frm b0_4 (I b0_4.length - (1 : Int)).toNat Dop.d7).at_ + (1 : Int)) (@List.getD Dop.Frm b0_4 (I b0_4.length - (1 : Int)).toNat Dop.d7).dst), (true, ((2 : Int), ((1 : Int), (b0_8, ()))))))))), ()))
     else
      if (decide (I b0_1.length ≤ y4.fst.fst)) = true then
       some ((), ((b0_0, (b0_1, (b0_2, (b0_3, (b0_4.set (I b0_4.length - (1 : Int)).toNat (Dop.Frm.mk (@List.getD Dop.Frm b0_4 (I b0_4.length - (1 : Int)).toNat Dop.d7).f (@List.getD Dop.Frm b0_4 (I b0_4.length - (1 : Int)).toNat Dop.d7).regs (@List.getD Dop.Frm b0_4 (I b0_4.length - (1 : Int)).toNat Dop.d7).base ((@List.getD Dop.Frm b0_4 (I b0_4.length - (1 : Int)).toNat Dop.d7).at_ + (1 : Int)) (@List.getD Dop.Frm b0_4 (I b0_4.length - (1 : Int)).toNat Dop.d7).dst), (true, ((2 : Int), ((1 : Int), (b0_8, ()))))))))), ()))
      else
       if (decide ((@List.getD Dop.Ins (@List.getD Dop.Frm b0_4 (I b0_4.length - (1 : Int)).toNat Dop.d7).f.code (@List.getD Dop.Frm b0_4 (I b0_4.length - (1 : Int)).toNat Dop.d7).at_.toNat Dop.d3).kind = (6 : Int))) = true then
        if (decide ((I b0_4.length - (1 : Int)).toNat < (b0_4.set (I b0_4.length - (1 : Int)).toNat (Dop.Frm.mk (@List.getD Dop.Frm b0_4 (I b0_4.length - (1 : Int)).toNat Dop.d7).f (@List.getD Dop.Frm b0_4 (I b0_4.length - (1 : Int)).toNat Dop.d7).regs (@List.getD Dop.Frm b0_4 (I b0_4.length - (1 : Int)).toNat Dop.d7).base ((@List.getD Dop.Frm b0_4 (I b0_4.length - (1 : Int)).toNat Dop.d7).at_ + (1 : Int)) (@List.getD Dop.Frm b0_4 (I b0_4.length - (1 : Int)).toNat Dop.d7).dst)).length)) = true then
        if (decide ((0 : Int) ≤ y4.fst.fst ∧ y4.fst.fst < I b0_1.length)) = true then
        if (decide (y4.fst.fst.toNat < b0_1.length)) = true then
        if (decide ((I b0_4.length - (1 : Int)).toNat < (b0_4.set (I b0_4.length - (1 : Int)).toNat (Dop.Frm.mk (@List.getD Dop.Frm b0_4 (I b0_4.length - (1 : Int)).toNat Dop.d7).f (@List.getD Dop.Frm b0_4 (I b0_4.length - (1 : Int)).toNat Dop.d7).regs (@List.getD Dop.Frm b0_4 (I b0_4.length - (1 : Int)).toNat Dop.d7).base ((@List.getD Dop.Frm b0_4 (I b0_4.length - (1 : Int)).toNat Dop.d7).at_ + (1 : Int)) (@List.getD Dop.Frm b0_4 (I b0_4.length - (1 : Int)).toNat Dop.d7).dst)).length ∧ (0 : Int) ≤ (@List.getD Dop.Ins (@List.getD Dop.Frm b0_4 (I b0_4.length - (1 : Int)).toNat Dop.d7).f.code (@List.getD Dop.Frm b0_4 (I b0_4.length - (1 : Int)).toNat Dop.d7).at_.toNat Dop.d3).dst ∧ (@List.getD Dop.Ins (@List.getD Dop.Frm b0_4 (I b0_4.length - (1 : Int)).toNat Dop.d7).f.code (@List.getD Dop.Frm b0_4 (I b0_4.length - (1 : Int)).toNat Dop.d7).at_.toNat Dop.d3).dst < I ((b0_4.set (I b0_4.length - (1 : Int)).toNat (Dop.Frm.mk (@List.getD Dop.Frm b0_4 (I b0_4.length - (1 : Int)).toNat Dop.d7).f (@List.getD Dop.Frm b0_4 (I b0_4.length - (1 : Int)).toNat Dop.d7).regs (@List.getD Dop.Frm b0_4 (I b0_4.length - (1 : Int)).toNat Dop.d7).base ((@List.getD Dop.Frm b0_4 (I b0_4.length - (1 : Int)).toNat Dop.d7).at_ + (1 : Int)) (@List.getD Dop.Frm b0_4 (I b0_4.length - (1 : Int)).toNat Dop.d7).dst)).getD (I b0_4.length - (1 : Int)).toNat Dop.d7).regs.length)) = true then
        if (decide ((I b0_4.length - (1 : Int)).toNat < (b0_4.set (I b0_4.length - (1 : Int)).toNat (Dop.Frm.mk (@List.getD Dop.Frm b0_4 (I b0_4.length - (1 : Int)).toNat Dop.d7).f (@List.getD Dop.Frm b0_4 (I b0_4.length - (1 : Int)).toNat Dop.d7).regs (@List.getD Dop.Frm b0_4 (I b0_4.length - (1 : Int)).toNat Dop.d7).base ((@List.getD Dop.Frm b0_4 (I b0_4.length - (1 : Int)).toNat Dop.d7).at_ + (1 : Int)) (@List.getD Dop.Frm b0_4 (I b0_4.length - (1 : Int)).toNat Dop.d7).dst)).length ∧ (@List.getD Dop.Ins (@List.getD Dop.Frm b0_4 (I b0_4.length - (1 : Int)).toNat Dop.d7).f.code (@List.getD Dop.Frm b0_4 (I b0_4.length - (1 : Int)).toNat Dop.d7).at_.toNat Dop.d3).dst.toNat < ((b0_4.set (I b0_4.length - (1 : Int)).toNat (Dop.Frm.mk (@List.getD Dop.Frm b0_4 (I b0_4.length - (1 : Int)).toNat Dop.d7).f (@List.getD Dop.Frm b0_4 (I b0_4.length - (1 : Int)).toNat Dop.d7).regs (@List.getD Dop.Frm b0_4 (I b0_4.length - (1 : Int)).toNat Dop.d7).base ((@List.getD Dop.Frm b0_4 (I b0_4.length - (1 : Int)).toNat Dop.d7).at_ + (1 : Int)) (@List.getD Dop.Frm b0_4 (I b0_4.length - (1 : Int)).toNat Dop.d7).dst)).getD (I b0_4.length - (1 : Int)).toNat Dop.d7).regs.length)) = true then
        some ((), ((b0_0, (b0_1, (b0_2, (b0_3, ((b0_4.set (I b0_4.length - (1 : Int)).toNat (Dop.Frm.mk (@List.getD Dop.Frm b0_4 (I b0_4.length - (1 : Int)).toNat Dop.d7).f (@List.getD Dop.Frm b0_4 (I b0_4.length - (1 : Int)).toNat Dop.d7).regs (@List.getD Dop.Frm b0_4 (I b0_4.length - (1 : Int)).toNat Dop.d7).base ((@List.getD Dop.Frm b0_4 (I b0_4.length - (1 : Int)).toNat Dop.d7).at_ + (1 : Int)) (@List.getD Dop.Frm b0_4 (I b0_4.length - (1 : Int)).toNat Dop.d7).dst)).set (I b0_4.length - (1 : Int)).toNat (Dop.Frm.mk ((b0_4.set (I b0_4.length - (1 : Int)).toNat (Dop.Frm.mk (@List.getD Dop.Frm b0_4 (I b0_4.length - (1 : Int)).toNat Dop.d7).f (@List.getD Dop.Frm b0_4 (I b0_4.length - (1 : Int)).toNat Dop.d7).regs (@List.getD Dop.Frm b0_4 (I b0_4.length - (1 : Int)).toNat Dop.d7).base ((@List.getD Dop.Frm b0_4 (I b0_4.length - (1 : Int)).toNat Dop.d7).at_ + (1 : Int)) (@List.getD Dop.Frm b0_4 (I b0_4.length - (1 : Int)).toNat Dop.d7).dst)).getD (I b0_4.length - (1 : Int)).toNat Dop.d7).f (((b0_4.set (I b0_4.length - (1 : Int)).toNat (Dop.Frm.mk (@List.getD Dop.Frm b0_4 (I b0_4.length - (1 : Int)).toNat Dop.d7).f (@List.getD Dop.Frm b0_4 (I b0_4.length - (1 : Int)).toNat Dop.d7).regs (@List.getD Dop.Frm b0_4 (I b0_4.length - (1 : Int)).toNat Dop.d7).base ((@List.getD Dop.Frm b0_4 (I b0_4.length - (1 : Int)).toNat Dop.d7).at_ + (1 : Int)) (@List.getD Dop.Frm b0_4 (I b0_4.length - (1 : Int)).toNat Dop.d7).dst)).getD (I b0_4.length - (1 : Int)).toNat Dop.d7).regs.set (@List.getD Dop.Ins (@List.getD Dop.Frm b0_4 (I b0_4.length - (1 : Int)).toNat Dop.d7).f.code (@List.getD Dop.Frm b0_4 (I b0_4.length - (1 : Int)).toNat Dop.d7).at_.toNat Dop.d3).dst.toNat (@List.getD Int b0_1 y4.fst.fst.toNat (0 : Int))) ((b0_4.set (I b0_4.length - (1 : Int)).toNat (Dop.Frm.mk (@List.getD Dop.Frm b0_4 (I b0_4.length - (1 : Int)).toNat Dop.d7).f (@List.getD Dop.Frm b0_4 (I b0_4.length - (1 : Int)).toNat Dop.d7).regs (@List.getD Dop.Frm b0_4 (I b0_4.length - (1 : Int)).toNat Dop.d7).base ((@List.getD Dop.Frm b0_4 (I b0_4.length - (1 : Int)).toNat Dop.d7).at_ + (1 : Int)) (@List.getD Dop.Frm b0_4 (I b0_4.length - (1 : Int)).toNat Dop.d7).dst)).getD (I b0_4.length - (1 : Int)).toNat Dop.d7).base ((b0_4.set (I b0_4.length - (1 : Int)).toNat (Dop.Frm.mk (@List.getD Dop.Frm b0_4 (I b0_4.length - (1 : Int)).toNat Dop.d7).f (@List.getD Dop.Frm b0_4 (I b0_4.length - (1 : Int)).toNat Dop.d7).regs (@List.getD Dop.Frm b0_4 (I b0_4.length - (1 : Int)).toNat Dop.d7).base ((@List.getD Dop.Frm b0_4 (I b0_4.length - (1 : Int)).toNat Dop.d7).at_ + (1 : Int)) (@List.getD Dop.Frm b0_4 (I b0_4.length - (1 : Int)).toNat Dop.d7).dst)).getD (I b0_4.length - (1 : Int)).toNat Dop.d7).at_ ((b0_4.set (I b0_4.length - (1 : Int)).toNat (Dop.Frm.mk (@List.getD Dop.Frm b0_4 (I b0_4.length - (1 : Int)).toNat Dop.d7).f (@List.getD Dop.Frm b0_4 (I b0_4.length - (1 : Int)).toNat Dop.d7).regs (@List.getD Dop.Frm b0_4 (I b0_4.length - (1 : Int)).toNat Dop.d7).base ((@List.getD Dop.Frm b0_4 (I b0_4.length - (1 : Int)).toNat Dop.d7).at_ + (1 : Int)) (@List.getD Dop.Frm b0_4 (I b0_4.length - (1 : Int)).toNat Dop.d7).dst)).getD (I b0_4.length - (1 : Int)).toNat Dop.d7).dst), (b0_5, (b0_6, (b0_7, (b0_8, ()))))))))), ()))
        else none
        else none
        else none
        else none
        else none
       else
        if (decide ((I b0_4.length - (1 : Int)).toNat < (b0_4.set (I b0_4.length - (1 : Int)).toNat (Dop.Frm.mk (@List.getD Dop.Frm b0_4 (I b0_4.length - (1 : Int)).toNat Dop.d7).f (@List.getD Dop.Frm b0_4 (I b0_4.length - (1 : Int)).toNat Dop.d7).regs (@List.getD Dop.Frm b0_4 (I b0_4.length - (1 : Int)).toNat Dop.d7).base ((@List.getD Dop.Frm b0_4 (I b0_4.length - (1 : Int)).toNat Dop.d7).at_ + (1 : Int)) (@List.getD Dop.Frm b0_4 (I b0_4.length - (1 : Int)).toNat Dop.d7).dst)).length)) = true then
        if (decide ((I b0_4.length - (1 : Int)).toNat < (b0_4.set (I b0_4.length - (1 : Int)).toNat (Dop.Frm.mk (@List.getD Dop.Frm b0_4 (I b0_4.length - (1 : Int)).toNat Dop.d7).f (@List.getD Dop.Frm b0_4 (I b0_4.length - (1 : Int)).toNat Dop.d7).regs (@List.getD Dop.Frm b0_4 (I b0_4.length - (1 : Int)).toNat Dop.d7).base ((@List.getD Dop.Frm b0_4 (I b0_4.length - (1 : Int)).toNat Dop.d7).at_ + (1 : Int)) (@List.getD Dop.Frm b0_4 (I b0_4.length - (1 : Int)).toNat Dop.d7).dst)).length ∧ (0 : Int) ≤ (@List.getD Dop.Ins (@List.getD Dop.Frm b0_4 (I b0_4.length - (1 : Int)).toNat Dop.d7).f.code (@List.getD Dop.Frm b0_4 (I b0_4.length - (1 : Int)).toNat Dop.d7).at_.toNat Dop.d3).b ∧ (@List.getD Dop.Ins (@List.getD Dop.Frm b0_4 (I b0_4.length - (1 : Int)).toNat Dop.d7).f.code (@List.getD Dop.Frm b0_4 (I b0_4.length - (1 : Int)).toNat Dop.d7).at_.toNat Dop.d3).b < I ((b0_4.set (I b0_4.length - (1 : Int)).toNat (Dop.Frm.mk (@List.getD Dop.Frm b0_4 (I b0_4.length - (1 : Int)).toNat Dop.d7).f (@List.getD Dop.Frm b0_4 (I b0_4.length - (1 : Int)).toNat Dop.d7).regs (@List.getD Dop.Frm b0_4 (I b0_4.length - (1 : Int)).toNat Dop.d7).base ((@List.getD Dop.Frm b0_4 (I b0_4.length - (1 : Int)).toNat Dop.d7).at_ + (1 : Int)) (@List.getD Dop.Frm b0_4 (I b0_4.length - (1 : Int)).toNat Dop.d7).dst)).getD (I b0_4.length - (1 : Int)).toNat Dop.d7).regs.length)) = true then
        if (decide ((I b0_4.length - (1 : Int)).toNat < (b0_4.set (I b0_4.length - (1 : Int)).toNat (Dop.Frm.mk (@List.getD Dop.Frm b0_4 (I b0_4.length - (1 : Int)).toNat Dop.d7).f (@List.getD Dop.Frm b0_4 (I b0_4.length - (1 : Int)).toNat Dop.d7).regs (@List.getD Dop.Frm b0_4 (I b0_4.length - (1 : Int)).toNat Dop.d7).base ((@List.getD Dop.Frm b0_4 (I b0_4.length - (1 : Int)).toNat Dop.d7).at_ + (1 : Int)) (@List.getD Dop.Frm b0_4 (I b0_4.length - (1 : Int)).toNat Dop.d7).dst)).length) && decide ((@List.getD Dop.Ins (@List.getD Dop.Frm b0_4 (I b0_4.length - (1 : Int)).toNat Dop.d7).f.code (@List.getD Dop.Frm b0_4 (I b0_4.length - (1 : Int)).toNat Dop.d7).at_.toNat Dop.d3).b.toNat < ((b0_4.set (I b0_4.length - (1 : Int)).toNat (Dop.Frm.mk (@List.getD Dop.Frm b0_4 (I b0_4.length - (1 : Int)).toNat Dop.d7).f (@List.getD Dop.Frm b0_4 (I b0_4.length - (1 : Int)).toNat Dop.d7).regs (@List.getD Dop.Frm b0_4 (I b0_4.length - (1 : Int)).toNat Dop.d7).base ((@List.getD Dop.Frm b0_4 (I b0_4.length - (1 : Int)).toNat Dop.d7).at_ + (1 : Int)) (@List.getD Dop.Frm b0_4 (I b0_4.length - (1 : Int)).toNat Dop.d7).dst)).getD (I b0_4.length - (1 : Int)).toNat Dop.d7).regs.length)) = true then
        if (decide ((0 : Int) ≤ y4.fst.fst ∧ y4.fst.fst < I b0_1.length)) = true then
        if (decide (y4.fst.fst.toNat < b0_1.length)) = true then
        some ((), ((b0_0, (b0_1.set y4.fst.fst.toNat (((b0_4.set (I b0_4.length - (1 : Int)).toNat (Dop.Frm.mk (@List.getD Dop.Frm b0_4 (I b0_4.length - (1 : Int)).toNat Dop.d7).f (@List.getD Dop.Frm b0_4 (I b0_4.length - (1 : Int)).toNat Dop.d7).regs (@List.getD Dop.Frm b0_4 (I b0_4.length - (1 : Int)).toNat Dop.d7).base ((@List.getD Dop.Frm b0_4 (I b0_4.length - (1 : Int)).toNat Dop.d7).at_ + (1 : Int)) (@List.getD Dop.Frm b0_4 (I b0_4.length - (1 : Int)).toNat Dop.d7).dst)).getD (I b0_4.length - (1 : Int)).toNat Dop.d7).regs.getD (@List.getD Dop.Ins (@List.getD Dop.Frm b0_4 (I b0_4.length - (1 : Int)).toNat Dop.d7).f.code (@List.getD Dop.Frm b0_4 (I b0_4.length - (1 : Int)).toNat Dop.d7).at_.toNat Dop.d3).b.toNat (0 : Int)), (b0_2, (b0_3, (b0_4.set (I b0_4.length - (1 : Int)).toNat (Dop.Frm.mk (@List.getD Dop.Frm b0_4 (I b0_4.length - (1 : Int)).toNat Dop.d7).f (@List.getD Dop.Frm b0_4 (I b0_4.length - (1 : Int)).toNat Dop.d7).regs (@List.getD Dop.Frm b0_4 (I b0_4.length - (1 : Int)).toNat Dop.d7).base ((@List.getD Dop.Frm b0_4 (I b0_4.length - (1 : Int)).toNat Dop.d7).at_ + (1 : Int)) (@List.getD Dop.Frm b0_4 (I b0_4.length - (1 : Int)).toNat Dop.d7).dst), (b0_5, (b0_6, (b0_7, (b0_8, ()))))))))), ()))
        else none
        else none
        else none
        else none
        else none
    else none
    else none
    else none
   else
    Tryd.m21_8 ((I b0_4.length - (1 : Int)).toNat) ((@List.getD Dop.Ins (@List.getD Dop.Frm b0_4 (I b0_4.length - (1 : Int)).toNat Dop.d7).f.code (@List.getD Dop.Frm b0_4 (I b0_4.length - (1 : Int)).toNat Dop.d7).at_.toNat Dop.d3).kind) (b0_0) (b0_1) (b0_2) (b0_3) (b0_5) (b0_6) (b0_7) (b0_8) (b0_4.set (I b0_4.length - (1 : Int)).toNat (Dop.Frm.mk (@List.getD Dop.Frm b0_4 (I b0_4.length - (1 : Int)).toNat Dop.d7).f (@List.getD Dop.Frm b0_4 (I b0_4.length - (1 : Int)).toNat Dop.d7).regs (@List.getD Dop.Frm b0_4 (I b0_4.length - (1 : Int)).toNat Dop.d7).base ((@List.getD Dop.Frm b0_4 (I b0_4.length - (1 : Int)).toNat Dop.d7).at_ + (1 : Int)) (@List.getD Dop.Frm b0_4 (I b0_4.length - (1 : Int)).toNat Dop.d7).dst)) (@List.getD Dop.Ins (@List.getD Dop.Frm b0_4 (I b0_4.length - (1 : Int)).toNat Dop.d7).f.code (@List.getD Dop.Frm b0_4 (I b0_4.length - (1 : Int)).toNat Dop.d7).at_.toNat Dop.d3)
  else
   if (decide ((@List.getD Dop.Ins (@List.getD Dop.Frm b0_4 (I b0_4.length - (1 : Int)).toNat Dop.d7).f.code (@List.getD Dop.Frm b0_4 (I b0_4.length - (1 : Int)).toNat Dop.d7).at_.toNat Dop.d3).kind = (7 : Int))) = true then
    if (decide ((I b0_4.length - (1 : Int)).toNat < (b0_4.set (I b0_4.length - (1 : Int)).toNat (Dop.Frm.mk (@List.getD Dop.Frm b0_4 (I b0_4.length - (1 : Int)).toNat Dop.d7).f (@List.getD Dop.Frm b0_4 (I b0_4.length - (1 : Int)).toNat Dop.d7).regs (@List.getD Dop.Frm b0_4 (I b0_4.length - (1 : Int)).toNat Dop.d7).base ((@List.getD Dop.Frm b0_4 (I b0_4.length - (1 : Int)).toNat Dop.d7).at_ + (1 : Int)) (@List.getD Dop.Frm b0_4 (I b0_4.length - (1 : Int)).toNat Dop.d7).dst)).length)) = true then
    if (decide ((I b0_4.length - (1 : Int)).toNat < (b0_4.set (I b0_4.length - (1 : Int)).toNat (Dop.Frm.mk (@List.getD Dop.Frm b0_4 (I b0_4.length - (1 : Int)).toNat Dop.d7).f (@List.getD Dop.Frm b0_4 (I b0_4.length - (1 : Int)).toNat Dop.d7).regs (@List.getD Dop.Frm b0_4 (I b0_4.length - (1 : Int)).toNat Dop.d7).base ((@List.getD Dop.Frm b0_4 (I b0_4.length - (1 : Int)).toNat Dop.d7).at_ + (1 : Int)) (@List.getD Dop.Frm b0_4 (I b0_4.length - (1 : Int)).toNat Dop.d7).dst)).length ∧ (0 : Int) ≤ (@List.getD Dop.Ins (@List.getD Dop.Frm b0_4 (I b0_4.length - (1 : Int)).toNat Dop.d7).f.code (@List.getD Dop.Frm b0_4 (I b0_4.length - (1 : Int)).toNat Dop.d7).at_.toNat Dop.d3).a ∧ (@List.getD Dop.Ins (@List.getD Dop.Frm b0_4 (I b0_4.length - (1 : Int)).toNat Dop.d7).f.code (@List.getD Dop.Frm b0_4 (I b0_4.length - (1 : Int)).toNat Dop.d7).at_.toNat Dop.d3).a < I ((b0_4.set (I b0_4.length - (1 : Int)).toNat (Dop.Frm.mk (@List.getD Dop.Frm b0_4 (I b0_4.length - (1 : Int)).toNat Dop.d7).f (@List.getD Dop.Frm b0_4 (I b0_4.length - (1 : Int)).toNat Dop.d7).regs (@List.getD Dop.Frm b0_4 (I b0_4.length - (1 : Int)).toNat Dop.d7).base ((@List.getD Dop.Frm b0_4 (I b0_4.length - (1 : Int)).toNat Dop.d7).at_ + (1 : Int)) (@List.getD Dop.Frm b0_4 (I b0_4.length - (1 : Int)).toNat Dop.d7).dst)).getD (I b0_4.length - (1 : Int)).toNat Dop.d7).regs.length)) = true then
    if (decide ((I b0_4.length - (1 : Int)).toNat < (b0_4.set (I b0_4.length - (1 : Int)).toNat (Dop.Frm.mk (@List.getD Dop.Frm b0_4 (I b0_4.length - (1 : Int)).toNat Dop.d7).f (@List.getD Dop.Frm b0_4 (I b0_4.length - (1 : Int)).toNat Dop.d7).regs (@List.getD Dop.Frm b0_4 (I b0_4.length - (1 : Int)).toNat Dop.d7).base ((@List.getD Dop.Frm b0_4 (I b0_4.length - (1 : Int)).toNat Dop.d7).at_ + (1 : Int)) (@List.getD Dop.Frm b0_4 (I b0_4.length - (1 : Int)).toNat Dop.d7).dst)).length) && decide ((@List.getD Dop.Ins (@List.getD Dop.Frm b0_4 (I b0_4.length - (1 : Int)).toNat Dop.d7).f.code (@List.getD Dop.Frm b0_4 (I b0_4.length - (1 : Int)).toNat Dop.d7).at_.toNat Dop.d3).a.toNat < ((b0_4.set (I b0_4.length - (1 : Int)).toNat (Dop.Frm.mk (@List.getD Dop.Frm b0_4 (I b0_4.length - (1 : Int)).toNat Dop.d7).f (@List.getD Dop.Frm b0_4 (I b0_4.length - (1 : Int)).toNat Dop.d7).regs (@List.getD Dop.Frm b0_4 (I b0_4.length - (1 : Int)).toNat Dop.d7).base ((@List.getD Dop.Frm b0_4 (I b0_4.length - (1 : Int)).toNat Dop.d7).at_ + (1 : Int)) (@List.getD Dop.Frm b0_4 (I b0_4.length - (1 : Int)).toNat Dop.d7).dst)).getD (I b0_4.length - (1 : Int)).toNat Dop.d7).regs.length)) = true then
    (Tryd.m42 (((b0_4.set (I b0_4.length - (1 : Int)).toNat (Dop.Frm.mk (@List.getD Dop.Frm b0_4 (I b0_4.length - (1 : Int)).toNat Dop.d7).f (@List.getD Dop.Frm b0_4 (I b0_4.length - (1 : Int)).toNat Dop.d7).regs (@List.getD Dop.Frm b0_4 (I b0_4.length - (1 : Int)).toNat Dop.d7).base ((@List.getD Dop.Frm b0_4 (I b0_4.length - (1 : Int)).toNat Dop.d7).at_ + (1 : Int)) (@List.getD Dop.Frm b0_4 (I b0_4.length - (1 : Int)).toNat Dop.d7).dst)).getD (I b0_4.length - (1 : Int)).toNat Dop.d7).regs.getD (@List.getD Dop.Ins (@List.getD Dop.Frm b0_4 (I b0_4.length - (1 : Int)).toNat Dop.d7).f.code (@List.getD Dop.Frm b0_4 (I b0_4.length - (1 : Int)).toNat Dop.d7).at_.toNat Dop.d3).a.toNat (0 : Int))).bind fun y4 =>
     if (decide (y4.fst.fst < (1 : Int))) = true then
      some ((), ((b0_0, (b0_1, (b0_2, (b0_3, (b0_4.set (I b0_4.length - (1 : Int)).toNat (Dop.Frm.mk (@List.getD Dop.Frm b0_4 (I b0_4.length - (1 : Int)).toNat Dop.d7).f (@List.getD Dop.Frm b0_4 (I b0_4.length - (1 : Int)).toNat Dop.d7).regs (@List.getD Dop.Frm b0_4 (I b0_4.length - (1 : Int)).toNat Dop.d7).base ((@List.getD Dop.Frm b0_4 (I b0_4.length - (1 : Int)).toNat Dop.d7).at_ + (1 : Int)) (@List.getD Dop.Frm b0_4 (I b0_4.length - (1 : Int)).toNat Dop.d7).dst), (true, ((2 : Int), ((1 : Int), (b0_8, ()))))))))), ()))
     else
      if (decide (I b0_1.length ≤ y4.fst.fst)) = true then
       some ((), ((b0_0, (b0_1, (b0_2, (b0_3, (b0_4.set (I b0_4.length - (1 : Int)).toNat (Dop.Frm.mk (@List.getD Dop.Frm b0_4 (I b0_4.length - (1 : Int)).toNat Dop.d7).f (@List.getD Dop.Frm b0_4 (I b0_4.length - (1 : Int)).toNat Dop.d7).regs (@List.getD Dop.Frm b0_4 (I b0_4.length - (1 : Int)).toNat Dop.d7).base ((@List.getD Dop.Frm b0_4 (I b0_4.length - (1 : Int)).toNat Dop.d7).at_ + (1 : Int)) (@List.getD Dop.Frm b0_4 (I b0_4.length - (1 : Int)).toNat Dop.d7).dst), (true, ((2 : Int), ((1 : Int), (b0_8, ()))))))))), ()))
      else
       if (decide ((@List.getD Dop.Ins (@List.getD Dop.Frm b0_4 (I b0_4.length - (1 : Int)).toNat Dop.d7).f.code (@List.getD Dop.Frm b0_4 (I b0_4.length - (1 : Int)).toNat Dop.d7).at_.toNat Dop.d3).kind = (6 : Int))) = true then
        if (decide ((I b0_4.length - (1 : Int)).toNat < (b0_4.set (I b0_4.length - (1 : Int)).toNat (Dop.Frm.mk (@List.getD Dop.Frm b0_4 (I b0_4.length - (1 : Int)).toNat Dop.d7).f (@List.getD Dop.Frm b0_4 (I b0_4.length - (1 : Int)).toNat Dop.d7).regs (@List.getD Dop.Frm b0_4 (I b0_4.length - (1 : Int)).toNat Dop.d7).base ((@List.getD Dop.Frm b0_4 (I b0_4.length - (1 : Int)).toNat Dop.d7).at_ + (1 : Int)) (@List.getD Dop.Frm b0_4 (I b0_4.length - (1 : Int)).toNat Dop.d7).dst)).length)) = true then
        if (decide ((0 : Int) ≤ y4.fst.fst ∧ y4.fst.fst < I b0_1.length)) = true then
        if (decide (y4.fst.fst.toNat < b0_1.length)) = true then
        if (decide ((I b0_4.length - (1 : Int)).toNat < (b0_4.set (I b0_4.length - (1 : Int)).toNat (Dop.Frm.mk (@List.getD Dop.Frm b0_4 (I b0_4.length - (1 : Int)).toNat Dop.d7).f (@List.getD Dop.Frm b0_4 (I b0_4.length - (1 : Int)).toNat Dop.d7).regs (@List.getD Dop.Frm b0_4 (I b0_4.length - (1 : Int)).toNat Dop.d7).base ((@List.getD Dop.Frm b0_4 (I b0_4.length - (1 : Int)).toNat Dop.d7).at_ + (1 : Int)) (@List.getD Dop.Frm b0_4 (I b0_4.length - (1 : Int)).toNat Dop.d7).dst)).length ∧ (0 : Int) ≤ (@List.getD Dop.Ins (@List.getD Dop.Frm b0_4 (I b0_4.length - (1 : Int)).toNat Dop.d7).f.code (@List.getD Dop.Frm b0_4 (I b0_4.length - (1 : Int)).toNat Dop.d7).at_.toNat Dop.d3).dst ∧ (@List.getD Dop.Ins (@List.getD Dop.Frm b0_4 (I b0_4.length - (1 : Int)).toNat Dop.d7).f.code (@List.getD Dop.Frm b0_4 (I b0_4.length - (1 : Int)).toNat Dop.d7).at_.toNat Dop.d3).dst < I ((b0_4.set (I b0_4.length - (1 : Int)).toNat (Dop.Frm.mk (@List.getD Dop.Frm b0_4 (I b0_4.length - (1 : Int)).toNat Dop.d7).f (@List.getD Dop.Frm b0_4 (I b0_4.length - (1 : Int)).toNat Dop.d7).regs (@List.getD Dop.Frm b0_4 (I b0_4.length - (1 : Int)).toNat Dop.d7).base ((@List.getD Dop.Frm b0_4 (I b0_4.length - (1 : Int)).toNat Dop.d7).at_ + (1 : Int)) (@List.getD Dop.Frm b0_4 (I b0_4.length - (1 : Int)).toNat Dop.d7).dst)).getD (I b0_4.length - (1 : Int)).toNat Dop.d7).regs.length)) = true then
        if (decide ((I b0_4.length - (1 : Int)).toNat < (b0_4.set (I b0_4.length - (1 : Int)).toNat (Dop.Frm.mk (@List.getD Dop.Frm b0_4 (I b0_4.length - (1 : Int)).toNat Dop.d7).f (@List.getD Dop.Frm b0_4 (I b0_4.length - (1 : Int)).toNat Dop.d7).regs (@List.getD Dop.Frm b0_4 (I b0_4.length - (1 : Int)).toNat Dop.d7).base ((@List.getD Dop.Frm b0_4 (I b0_4.length - (1 : Int)).toNat Dop.d7).at_ + (1 : Int)) (@List.getD Dop.Frm b0_4 (I b0_4.length - (1 : Int)).toNat Dop.d7).dst)).length ∧ (@List.getD Dop.Ins (@List.getD Dop.Frm b0_4 (I b0_4.length - (1 : Int)).toNat Dop.d7).f.code (@List.getD Dop.Frm b0_4 (I b0_4.length - (1 : Int)).toNat Dop.d7).at_.toNat Dop.d3).dst.toNat < ((b0_4.set (I b0_4.length - (1 : Int)).toNat (Dop.Frm.mk (@List.getD Dop.Frm b0_4 (I b0_4.length - (1 : Int)).toNat Dop.d7).f (@List.getD Dop.Frm b0_4 (I b0_4.length - (1 : Int)).toNat Dop.d7).regs (@List.getD Dop.Frm b0_4 (I b0_4.length - (1 : Int)).toNat Dop.d7).base ((@List.getD Dop.Frm b0_4 (I b0_4.length - (1 : Int)).toNat Dop.d7).at_ + (1 : Int)) (@List.getD Dop.Frm b0_4 (I b0_4.length - (1 : Int)).toNat Dop.d7).dst)).getD (I b0_4.length - (1 : Int)).toNat Dop.d7).regs.length)) = true then
        some ((), ((b0_0, (b0_1, (b0_2, (b0_3, ((b0_4.set (I b0_4.length - (1 : Int)).toNat (Dop.Frm.mk (@List.getD Dop.Frm b0_4 (I b0_4.length - (1 : Int)).toNat Dop.d7).f (@List.getD Dop.Frm b0_4 (I b0_4.length - (1 : Int)).toNat Dop.d7).regs (@List.getD Dop.Frm b0_4 (I b0_4.length - (1 : Int)).toNat Dop.d7).base ((@List.getD Dop.Frm b0_4 (I b0_4.length - (1 : Int)).toNat Dop.d7).at_ + (1 : Int)) (@List.getD Dop.Frm b0_4 (I b0_4.length - (1 : Int)).toNat Dop.d7).dst)).set (I b0_4.length - (1 : Int)).toNat (Dop.Frm.mk ((b0_4.set (I b0_4.length - (1 : Int)).toNat (Dop.Frm.mk (@List.getD Dop.Frm b0_4 (I b0_4.length - (1 : Int)).toNat Dop.d7).f (@List.getD Dop.Frm b0_4 (I b0_4.length - (1 : Int)).toNat Dop.d7).regs (@List.getD Dop.Frm b0_4 (I b0_4.length - (1 : Int)).toNat Dop.d7).base ((@List.getD Dop.Frm b0_4 (I b0_4.length - (1 : Int)).toNat Dop.d7).at_ + (1 : Int)) (@List.getD Dop.Frm b0_4 (I b0_4.length - (1 : Int)).toNat Dop.d7).dst)).getD (I b0_4.length - (1 : Int)).toNat Dop.d7).f (((b0_4.set (I b0_4.length - (1 : Int)).toNat (Dop.Frm.mk (@List.getD Dop.Frm b0_4 (I b0_4.length - (1 : Int)).toNat Dop.d7).f (@List.getD Dop.Frm b0_4 (I b0_4.length - (1 : Int)).toNat Dop.d7).regs (@List.getD Dop.Frm b0_4 (I b0_4.length - (1 : Int)).toNat Dop.d7).base ((@List.getD Dop.Frm b0_4 (I b0_4.length - (1 : Int)).toNat Dop.d7).at_ + (1 : Int)) (@List.getD Dop.Frm b0_4 (I b0_4.length - (1 : Int)).toNat Dop.d7).dst)).getD (I b0_4.length - (1 : Int)).toNat Dop.d7).regs.set (@List.getD Dop.Ins (@List.getD Dop.Frm b0_4 (I b0_4.length - (1 : Int)).toNat Dop.d7).f.code (@List.getD Dop.Frm b0_4 (I b0_4.length - (1 : Int)).toNat Dop.d7).at_.toNat Dop.d3).dst.toNat (@List.getD Int b0_1 y4.fst.fst.toNat (0 : Int))) ((b0_4.set (I b0_4.length - (1 : Int)).toNat (Dop.Frm.mk (@List.getD Dop.Frm b0_4 (I b0_4.length - (1 : Int)).toNat Dop.d7).f (@List.getD Dop.Frm b0_4 (I b0_4.length - (1 : Int)).toNat Dop.d7).regs (@List.getD Dop.Frm b0_4 (I b0_4.length - (1 : Int)).toNat Dop.d7).base ((@List.getD Dop.Frm b0_4 (I b0_4.length - (1 : Int)).toNat Dop.d7).at_ + (1 : Int)) (@List.getD Dop.Frm b0_4 (I b0_4.length - (1 : Int)).toNat Dop.d7).dst)).getD (I b0_4.length - (1 : Int)).toNat Dop.d7).base ((b0_4.set (I b0_4.length - (1 : Int)).toNat (Dop.Frm.mk (@List.getD Dop.Frm b0_4 (I b0_4.length - (1 : Int)).toNat Dop.d7).f (@List.getD Dop.Frm b0_4 (I b0_4.length - (1 : Int)).toNat Dop.d7).regs (@List.getD Dop.Frm b0_4 (I b0_4.length - (1 : Int)).toNat Dop.d7).base ((@List.getD Dop.Frm b0_4 (I b0_4.length - (1 : Int)).toNat Dop.d7).at_ + (1 : Int)) (@List.getD Dop.Frm b0_4 (I b0_4.length - (1 : Int)).toNat Dop.d7).dst)).getD (I b0_4.length - (1 : Int)).toNat Dop.d7).at_ ((b0_4.set (I b0_4.length - (1 : Int)).toNat (Dop.Frm.mk (@List.getD Dop.Frm b0_4 (I b0_4.length - (1 : Int)).toNat Dop.d7).f (@List.getD Dop.Frm b0_4 (I b0_4.length - (1 : Int)).toNat Dop.d7).regs (@List.getD Dop.Frm b0_4 (I b0_4.length - (1 : Int)).toNat Dop.d7).base ((@List.getD Dop.Frm b0_4 (I b0_4.length - (1 : Int)).toNat Dop.d7).at_ + (1 : Int)) (@List.getD Dop.Frm b0_4 (I b0_4.length - (1 : Int)).toNat Dop.d7).dst)).getD (I b0_4.length - (1 : Int)).toNat Dop.d7).dst), (b0_5, (b0_6, (b0_7, (b0_8, ()))))))))), ()))
        else none
        else none
        else none
        else none
        else none
       else
        if (decide ((I b0_4.length - (1 : Int)).toNat < (b0_4.set (I b0_4.length - (1 : Int)).toNat (Dop.Frm.mk (@List.getD Dop.Frm b0_4 (I b0_4.length - (1 : Int)).toNat Dop.d7).f (@List.getD Dop.Frm b0_4 (I b0_4.length - (1 : Int)).toNat Dop.d7).regs (@List.getD Dop.Frm b0_4 (I b0_4.length - (1 : Int)).toNat Dop.d7).base ((@List.getD Dop.Frm b0_4 (I b0_4.length - (1 : Int)).toNat Dop.d7).at_ + (1 : Int)) (@List.getD Dop.Frm b0_4 (I b0_4.length - (1 : Int)).toNat Dop.d7).dst)).length)) = true then
        if (decide ((I b0_4.length - (1 : Int)).toNat < (b0_4.set (I b0_4.length - (1 : Int)).toNat (Dop.Frm.mk (@List.getD Dop.Frm b0_4 (I b0_4.length - (1 : Int)).toNat Dop.d7).f (@List.getD Dop.Frm b0_4 (I b0_4.length - (1 : Int)).toNat Dop.d7).regs (@List.getD Dop.Frm b0_4 (I b0_4.length - (1 : Int)).toNat Dop.d7).base ((@List.getD Dop.Frm b0_4 (I b0_4.length - (1 : Int)).toNat Dop.d7).at_ + (1 : Int)) (@List.getD Dop.Frm b0_4 (I b0_4.length - (1 : Int)).toNat Dop.d7).dst)).length ∧ (0 : Int) ≤ (@List.getD Dop.Ins (@List.getD Dop.Frm b0_4 (I b0_4.length - (1 : Int)).toNat Dop.d7).f.code (@List.getD Dop.Frm b0_4 (I b0_4.length - (1 : Int)).toNat Dop.d7).at_.toNat Dop.d3).b ∧ (@List.getD Dop.Ins (@List.getD Dop.Frm b0_4 (I b0_4.length - (1 : Int)).toNat Dop.d7).f.code (@List.getD Dop.Frm b0_4 (I b0_4.length - (1 : Int)).toNat Dop.d7).at_.toNat Dop.d3).b < I ((b0_4.set (I b0_4.length - (1 : Int)).toNat (Dop.Frm.mk (@List.getD Dop.Frm b0_4 (I b0_4.length - (1 : Int)).toNat Dop.d7).f (@List.getD Dop.Frm b0_4 (I b0_4.length - (1 : Int)).toNat Dop.d7).regs (@List.getD Dop.Frm b0_4 (I b0_4.length - (1 : Int)).toNat Dop.d7).base ((@List.getD Dop.Frm b0_4 (I b0_4.length - (1 : Int)).toNat Dop.d7).at_ + (1 : Int)) (@List.getD Dop.Frm b0_4 (I b0_4.length - (1 : Int)).toNat Dop.d7).dst)).getD (I b0_4.length - (1 : Int)).toNat Dop.d7).regs.length)) = true then
        if (decide ((I b0_4.length - (1 : Int)).toNat < (b0_4.set (I b0_4.length - (1 : Int)).toNat (Dop.Frm.mk (@List.getD Dop.Frm b0_4 (I b0_4.length - (1 : Int)).toNat Dop.d7).f (@List.getD Dop.Frm b0_4 (I b0_4.length - (1 : Int)).toNat Dop.d7).regs (@List.getD Dop.Frm b0_4 (I b0_4.length - (1 : Int)).toNat Dop.d7).base ((@List.getD Dop.Frm b0_4 (I b0_4.length - (1 : Int)).toNat Dop.d7).at_ + (1 : Int)) (@List.getD Dop.Frm b0_4 (I b0_4.length - (1 : Int)).toNat Dop.d7).dst)).length) && decide ((@List.getD Dop.Ins (@List.getD Dop.Frm b0_4 (I b0_4.length - (1 : Int)).toNat Dop.d7).f.code (@List.getD Dop.Frm b0_4 (I b0_4.length - (1 : Int)).toNat Dop.d7).at_.toNat Dop.d3).b.toNat < ((b0_4.set (I b0_4.length - (1 : Int)).toNat (Dop.Frm.mk (@List.getD Dop.Frm b0_4 (I b0_4.length - (1 : Int)).toNat Dop.d7).f (@List.getD Dop.Frm b0_4 (I b0_4.length - (1 : Int)).toNat Dop.d7).regs (@List.getD Dop.Frm b0_4 (I b0_4.length - (1 : Int)).toNat Dop.d7).base ((@List.getD Dop.Frm b0_4 (I b0_4.length - (1 : Int)).toNat Dop.d7).at_ + (1 : Int)) (@List.getD Dop.Frm b0_4 (I b0_4.length - (1 : Int)).toNat Dop.d7).dst)).getD (I b0_4.length - (1 : Int)).toNat Dop.d7).regs.length)) = true then
        if (decide ((0 : Int) ≤ y4.fst.fst ∧ y4.fst.fst < I b0_1.length)) = true then
        if (decide (y4.fst.fst.toNat < b0_1.length)) = true then
        some ((), ((b0_0, (b0_1.set y4.fst.fst.toNat (((b0_4.set (I b0_4.length - (1 : Int)).toNat (Dop.Frm.mk (@List.getD Dop.Frm b0_4 (I b0_4.length - (1 : Int)).toNat Dop.d7).f (@List.getD Dop.Frm b0_4 (I b0_4.length - (1 : Int)).toNat Dop.d7).regs (@List.getD Dop.Frm b0_4 (I b0_4.length - (1 : Int)).toNat Dop.d7).base ((@List.getD Dop.Frm b0_4 (I b0_4.length - (1 : Int)).toNat Dop.d7).at_ + (1 : Int)) (@List.getD Dop.Frm b0_4 (I b0_4.length - (1 : Int)).toNat Dop.d7).dst)).getD (I b0_4.length - (1 : Int)).toNat Dop.d7).regs.getD (@List.getD Dop.Ins (@List.getD Dop.Frm b0_4 (I b0_4.length - (1 : Int)).toNat Dop.d7).f.code (@List.getD Dop.Frm b0_4 (I b0_4.length - (1 : Int)).toNat Dop.d7).at_.toNat Dop.d3).b.toNat (0 : Int)), (b0_2, (b0_3, (b0_4.set (I b0_4.length - (1 : Int)).toNat (Dop.Frm.mk (@List.getD Dop.Frm b0_4 (I b0_4.length - (1 : Int)).toNat Dop.d7).f (@List.getD Dop.Frm b0_4 (I b0_4.length - (1 : Int)).toNat Dop.d7).regs (@List.getD Dop.Frm b0_4 (I b0_4.length - (1 : Int)).toNat Dop.d7).base ((@List.getD Dop.Frm b0_4 (I b0_4.length - (1 : Int)).toNat Dop.d7).at_ + (1 : Int)) (@List.getD Dop.Frm b0_4 (I b0_4.length - (1 : Int)).toNat Dop.d7).dst), (b0_5, (b0_6, (b0_7, (b0_8, ()))))))))), ()))
        else none
        else none
        else none
        else none
        else none
    else none
    else none
    else none
   else
    Tryd.m21_8 ((I b0_4.length - (1 : Int)).toNat) ((@List.getD Dop.Ins (@List.getD Dop.Frm b0_4 (I b0_4.length - (1 : Int)).toNat Dop.d7).f.code (@List.getD Dop.Frm b0_4 (I b0_4.length - (1 : Int)).toNat Dop.d7).at_.toNat Dop.d3).kind) (b0_0) (b0_1) (b0_2) (b0_3) (b0_5) (b0_6) (b0_7) (b0_8) (b0_4.set (I b0_4.length - (1 : Int)).toNat (Dop.Frm.mk (@List.getD Dop.Frm b0_4 (I b0_4.length - (1 : Int)).toNat Dop.d7).f (@List.getD Dop.Frm b0_4 (I b0_4.length - (1 : Int)).toNat Dop.d7).regs (@List.getD Dop.Frm b0_4 (I b0_4.length - (1 : Int)).toNat Dop.d7).base ((@List.getD Dop.Frm b0_4 (I b0_4.length - (1 : Int)).toNat Dop.d7).at_ + (1 : Int)) (@List.getD Dop.Frm b0_4 (I b0_4.length - (1 : Int)).toNat Dop.d7).dst)) (@List.getD Dop.Ins (@List.getD Dop.Frm b0_4 (I b0_4.length - (1 : Int)).toNat Dop.d7).f.code (@List.getD Dop.Frm b0_4 (I b0_4.length - (1 : Int)).toNat Dop.d7).at_.toNat Dop.d3)
  else none
  else none
  else none
  else none
  else none
  else none
  else none
  else none := by kernel_rfl
theorem Tryd.m21_8_eq (t2 : Nat) (t37 : Int) (b0_0 : List (List UInt8 × En.Dop.Fnc)) (b0_1 : List (Int)) (b0_2 : Int) (b0_3 : List (Int)) (b0_5 : Bool) (b0_6 : Int) (b0_7 : Int) (b0_8 : List (Int)) (b1 : List (En.Dop.Frm)) (b2 : En.Dop.Ins) : Tryd.m21_8 t2 t37 b0_0 b0_1 b0_2 b0_3 b0_5 b0_6 b0_7 b0_8 b1 b2 =
  if (decide (t37 = (8 : Int))) = true then
   (Tryd.m33 (b2)).bind fun y3 =>
    Tryd.m21_11 (t2) (@List.nil Int) (y3.fst.fst) (I y3.fst.fst.length) ((0 : Int)) (b0_0) (b0_1) (b0_2) (b0_3) (b0_5) (b0_6) (b0_7) (b0_8) (b1) (b2)
  else
   if (decide (t37 = (9 : Int))) = true then
    if (decide (t2 < b1.length)) = true then
    if (decide (t2 < b1.length ∧ (0 : Int) ≤ b2.dst ∧ b2.dst < I (@List.getD Dop.Frm b1 t2 Dop.d7).regs.length)) = true then
    if (decide (t2 < b1.length ∧ b2.dst.toNat < (@List.getD Dop.Frm b1 t2 Dop.d7).regs.length)) = true then
    if (decide ((0 : Int) < I b0_3.length)) = true then
     if (decide (t2 < (b1.set t2 (Dop.Frm.mk (@List.getD Dop.Frm b1 t2 Dop.d7).f ((@List.getD Dop.Frm b1 t2 Dop.d7).regs.set b2.dst.toNat (-1 : Int)) (@List.getD Dop.Frm b1 t2 Dop.d7).base (@List.getD Dop.Frm b1 t2 Dop.d7).at_ (@List.getD Dop.Frm b1 t2 Dop.d7).dst)).length)) = true then
     if (decide ((0 : Int) ≤ (0 : Int) ∧ (0 : Int) < I b0_3.length)) = true then
     if (inR (@List.getD Int b0_3 (Int.toNat (0 : Int)) (0 : Int))) = true then
     if (decide ((0 : Int) ≤ (1 : Int) ∧ (1 : Int) ≤ I b0_3.length ∧ I b0_3.length ≤ I b0_3.length)) = true then
     if (decide (t2 < (b1.set t2 (Dop.Frm.mk (@List.getD Dop.Frm b1 t2 Dop.d7).f ((@List.getD Dop.Frm b1 t2 Dop.d7).regs.set b2.dst.toNat (-1 : Int)) (@List.getD Dop.Frm b1 t2 Dop.d7).base (@List.getD Dop.Frm b1 t2 Dop.d7).at_ (@List.getD Dop.Frm b1 t2 Dop.d7).dst)).length ∧ (0 : Int) ≤ b2.dst ∧ b2.dst < I ((b1.set t2 (Dop.Frm.mk (@List.getD Dop.Frm b1 t2 Dop.d7).f ((@List.getD Dop.Frm b1 t2 Dop.d7).regs.set b2.dst.toNat (-1 : Int)) (@List.getD Dop.Frm b1 t2 Dop.d7).base (@List.getD Dop.Frm b1 t2 Dop.d7).at_ (@List.getD Dop.Frm b1 t2 Dop.d7).dst)).getD t2 Dop.d7).regs.length)) = true then
     if (decide (t2 < (b1.set t2 (Dop.Frm.mk (@List.getD Dop.Frm b1 t2 Dop.d7).f ((@List.getD Dop.Frm b1 t2 Dop.d7).regs.set b2.dst.toNat (-1 : Int)) (@List.getD Dop.Frm b1 t2 Dop.d7).base (@List.getD Dop.Frm b1 t2 Dop.d7).at_ (@List.getD Dop.Frm b1 t2 Dop.d7).dst)).length ∧ b2.dst.toNat < ((b1.set t2 (Dop.Frm.mk (@List.getD Dop.Frm b1 t2 Dop.d7).f ((@List.getD Dop.Frm b1 t2 Dop.d7).regs.set b2.dst.toNat (-1 : Int)) (@List.getD Dop.Frm b1 t2 Dop.d7).base (@List.getD Dop.Frm b1 t2 Dop.d7).at_ (@List.getD Dop.Frm b1 t2 Dop.d7).dst)).getD t2 Dop.d7).regs.length)) = true then
     some ((), ((b0_0, (b0_1, (b0_2, (List.drop (Int.toNat (1 : Int)) (List.take (I b0_3.length).toNat b0_3), ((b1.set t2 (Dop.Frm.mk (@List.getD Dop.Frm b1 t2 Dop.d7).f ((@List.getD Dop.Frm b1 t2 Dop.d7).regs.set b2.dst.toNat (-1 : Int)) (@List.getD Dop.Frm b1 t2 Dop.d7).base (@List.getD Dop.Frm b1 t2 Dop.d7).at_ (@List.getD Dop.Frm b1 t2 Dop.d7).dst)).set t2 (Dop.Frm.mk ((b1.set t2 (Dop.Frm.mk (@List.getD Dop.Frm b1 t2 Dop.d7).f ((@List.getD Dop.Frm b1 t2 Dop.d7).regs.set b2.dst.toNat (-1 : Int)) (@List.getD Dop.Frm b1 t2 Dop.d7).base (@List.getD Dop.Frm b1 t2 Dop.d7).at_ (@List.getD Dop.Frm b1 t2 Dop.d7).dst)).getD t2 Dop.d7).f (((b1.set t2 (Dop.Frm.mk (@List.getD Dop.Frm b1 t2 Dop.d7).f ((@List.getD Dop.Frm b1 t2 Dop.d7).regs.set b2.dst.toNat (-1 : Int)) (@List.getD Dop.Frm b1 t2 Dop.d7).base (@List.getD Dop.Frm b1 t2 Dop.d7).at_ (@List.getD Dop.Frm b1 t2 Dop.d7).dst)).getD t2 Dop.d7).regs.set b2.dst.toNat (@List.getD Int b0_3 (Int.toNat (0 : Int)) (0 : Int))) ((b1.set t2 (Dop.Frm.mk (@List.getD Dop.Frm b1 t2 Dop.d7).f ((@List.getD Dop.Frm b1 t2 Dop.d7).regs.set b2.dst.toNat (-1 : Int)) (@List.getD Dop.Frm b1 t2 Dop.d7).base (@List.getD Dop.Frm b1 t2 Dop.d7).at_ (@List.getD Dop.Frm b1 t2 Dop.d7).dst)).getD t2 Dop.d7).base ((b1.set t2 (Dop.Frm.mk (@List.getD Dop.Frm b1 t2 Dop.d7).f ((@List.getD Dop.Frm b1 t2 Dop.d7).regs.set b2.dst.toNat (-1 : Int)) (@List.getD Dop.Frm b1 t2 Dop.d7).base (@List.getD Dop.Frm b1 t2 Dop.d7).at_ (@List.getD Dop.Frm b1 t2 Dop.d7).dst)).getD t2 Dop.d7).at_ ((b1.set t2 (Dop.Frm.mk (@List.getD Dop.Frm b1 t2 Dop.d7).f ((@List.getD Dop.Frm b1 t2 Dop.d7).regs.set b2.dst.toNat (-1 : Int)) (@List.getD Dop.Frm b1 t2 Dop.d7).base (@List.getD Dop.Frm b1 t2 Dop.d7).at_ (@List.getD Dop.Frm b1 t2 Dop.d7).dst)).getD t2 Dop.d7).dst), (b0_5, (b0_6, (b0_7, (b0_8, ()))))))))), ()))
     else none
     else none
     else none
     else none
     else none
     else none
    else
     some ((), ((b0_0, (b0_1, (b0_2, (b0_3, (b1.set t2 (Dop.Frm.mk (@List.getD Dop.Frm b1 t2 Dop.d7).f ((@List.getD Dop.Frm b1 t2 Dop.d7).regs.set b2.dst.toNat (-1 : Int)) (@List.getD Dop.Frm b1 t2 Dop.d7).base (@List.getD Dop.Frm b1 t2 Dop.d7).at_ (@List.getD Dop.Frm b1 t2 Dop.d7).dst), (b0_5, (b0_6, (b0_7, (b0_8, ()))))))))), ()))
    else none
    else none
    else none
   else
    if (decide (t37 = (10 : Int))) = true then
     if (decide (t2 < b1.length)) = true then
     if (decide (t2 < b1.length ∧ (0 : Int) ≤ b2.a ∧ b2.a < I (@List.getD Dop.Frm b1 t2 Dop.d7).regs.length)) = true then
     if (decide (t2 < b1.length) && decide (b2.a.toNat < (@List.getD Dop.Frm b1 t2 Dop.d7).regs.length)) = true then
     if (andC none (room (1 : Nat) (b0_8.length + (IntKind.u8.wrap ((@List.getD Dop.Frm b1 t2 Dop.d7).regs.getD b2.a.toNat (0 : Int)) :: @List.nil Int).length))) = true then
     some ((), ((b0_0, (b0_1, (b0_2, (b0_3, (b1, (b0_5, (b0_6, (b0_7, (b0_8 ++ IntKind.u8.wrap ((@List.getD Dop.Frm b1 t2 Dop.d7).regs.getD b2.a.toNat (0 : Int)) :: @List.nil Int, ()))))))))), ()))
     else none
     else none
     else none
     else none
    else
     if (decide (t37 = (11 : Int))) = true then
      if (decide (t2 < b1.length)) = true then
      some ((), ((b0_0, (b0_1, (b0_2, (b0_3, (b1.set t2 (Dop.Frm.mk (@List.getD Dop.Frm b1 t2 Dop.d7).f (@List.getD Dop.Frm b1 t2 Dop.d7).regs (@List.getD Dop.Frm b1 t2 Dop.d7).base b2.to_ (@List.getD Dop.Frm b1 t2 Dop.d7).dst), (b0_5, (b0_6, (b0_7, (b0_8, ()))))))))), ()))
      else none
     else
      if (decide (t37 = (12 : Int))) = true then
       if (decide (t2 < b1.length)) = true then
       if (decide (t2 < (b1.set t2 (Dop.Frm.mk (@List.getD Dop.Frm b1 t2 Dop.d7).f (@List.getD Dop.Frm b1 t2 Dop.d7).regs (@List.getD Dop.Frm b1 t2 Dop.d7).base b2.else_ (@List.getD Dop.Frm b1 t2 Dop.d7).dst)).length)) = true then
       if (decide (t2 < (b1.set t2 (Dop.Frm.mk (@List.getD Dop.Frm b1 t2 Dop.d7).f (@List.getD Dop.Frm b1 t2 Dop.d7).regs (@List.getD Dop.Frm b1 t2 Dop.d7).base b2.else_ (@List.getD Dop.Frm b1 t2 Dop.d7).dst)).length ∧ (0 : Int) ≤ b2.a ∧ b2.a < I ((b1.set t2 (Dop.Frm.mk (@List.getD Dop.Frm b1 t2 Dop.d7).f (@List.getD Dop.Frm b1 t2 Dop.d7).regs (@List.getD Dop.Frm b1 t2 Dop.d7).base b2.else_ (@List.getD Dop.Frm b1 t2 Dop.d7).dst)).getD t2 Dop.d7).regs.length)) = true then
       if (decide (t2 < (b1.set t2 (Dop.Frm.mk (@List.getD Dop.Frm b1 t2 Dop.d7).f (@List.getD Dop.Frm b1 t2 Dop.d7).regs (@List.getD Dop.Frm b1 t2 Dop.d7).base b2.else_ (@List.getD Dop.Frm b1 t2 Dop.d7).dst)).length) && decide (b2.a.toNat < ((b1.set t2 (Dop.Frm.mk (@List.getD Dop.Frm b1 t2 Dop.d7).f (@List.getD Dop.Frm b1 t2 Dop.d7).regs (@List.getD Dop.Frm b1 t2 Dop.d7).base b2.else_ (@List.getD Dop.Frm b1 t2 Dop.d7).dst)).getD t2 Dop.d7).regs.length)) = true then
       if (!decide (((b1.set t2 (Dop.Frm.mk (@List.getD Dop.Frm b1 t2 Dop.d7).f (@List.getD Dop.Frm b1 t2 Dop.d7).regs (@List.getD Dop.Frm b1 t2 Dop.d7).base b2.else_ (@List.getD Dop.Frm b1 t2 Dop.d7).dst)).getD t2 Dop.d7).regs.getD b2.a.toNat (0 : Int) = (0 : Int))) = true then
        if (decide (t2 < (b1.set t2 (Dop.Frm.mk (@List.getD Dop.Frm b1 t2 Dop.d7).f (@List.getD Dop.Frm b1 t2 Dop.d7).regs (@List.getD Dop.Frm b1 t2 Dop.d7).base b2.else_ (@List.getD Dop.Frm b1 t2 Dop.d7).dst)).length)) = true then
        some ((), ((b0_0, (b0_1, (b0_2, (b0_3, ((b1.set t2 (Dop.Frm.mk (@List.getD Dop.Frm b1 t2 Dop.d7).f (@List.getD Dop.Frm b1 t2 Dop.d7).regs (@List.getD Dop.Frm b1 t2 Dop.d7).base b2.else_ (@List.getD Dop.Frm b1 t2 Dop.d7).dst)).set t2 (Dop.Frm.mk ((b1.set t2 (Dop.Frm.mk (@List.getD Dop.Frm b1 t2 Dop.d7).f (@List.getD Dop.Frm b1 t2 Dop.d7).regs (@List.getD Dop.Frm b1 t2 Dop.d7).base b2.else_ (@List.getD Dop.Frm b1 t2 Dop.d7).dst)).getD t2 Dop.d7).f ((b1.set t2 (Dop.Frm.mk (@List.getD Dop.Frm b1 t2 Dop.d7).f (@List.getD Dop.Frm b1 t2 Dop.d7).regs (@List.getD Dop.Frm b1 t2 Dop.d7).base b2.else_ (@List.getD Dop.Frm b1 t2 Dop.d7).dst)).getD t2 Dop.d7).regs ((b1.set t2 (Dop.Frm.mk (@List.getD Dop.Frm b1 t2 Dop.d7).f (@List.getD Dop.Frm b1 t2 Dop.d7).regs (@List.getD Dop.Frm b1 t2 Dop.d7).base b2.else_ (@List.getD Dop.Frm b1 t2 Dop.d7).dst)).getD t2 Dop.d7).base b2.to_ ((b1.set t2 (Dop.Frm.mk (@List.getD Dop.Frm b1 t2 Dop.d7).f (@List.getD Dop.Frm b1 t2 Dop.d7).regs (@List.getD Dop.Frm b1 t2 Dop.d7).base b2.else_ (@List.getD Dop.Frm b1 t2 Dop.d7).dst)).getD t2 Dop.d7).dst), (b0_5, (b0_6, (b0_7, (b0_8, ()))))))))), ()))
        else none
       else
        some ((), ((b0_0, (b0_1, (b0_2, (b0_3, (b1.set t2 (Dop.Frm.mk (@List.getD Dop.Frm b1 t2 Dop.d7).f (@List.getD Dop.Frm b1 t2 Dop.d7).regs (@List.getD Dop.Frm b1 t2 Dop.d7).base b2.else_ (@List.getD Dop.Frm b1 t2 Dop.d7).dst), (b0_5, (b0_6, (b0_7, (b0_8, ()))))))))), ()))
       else none
       else none
       else none
       else none
      else
       if (decide (t37 = (13 : Int))) = true then
        if (decide (t2 < b1.length)) = true then
        if (decide (t2 < b1.length ∧ (0 : Int) ≤ b2.a ∧ b2.a < I (@List.getD Dop.Frm b1 t2 Dop.d7).regs.length)) = true then
        if (decide (t2 < b1.length) && decide (b2.a.toNat < (@List.getD Dop.Frm b1 t2 Dop.d7).regs.length)) = true then
        if (inR (I b1.length - (1 : Int))) = true then
        if (decide ((0 : Int) ≤ I b1.length - (1 : Int) ∧ I b1.length - (1 : Int) < I b1.length)) = true then
        if (decide ((I b1.length - (1 : Int)).toNat < b1.length)) = true then
        if (inR (b0_2 - (@List.getD Dop.Frm b1 (I b1.length - (1 : Int)).toNat Dop.d7).f.frame)) = true then
        if (inR (I b1.length - (1 : Int))) = true then
        if (decide ((0 : Int) ≤ I b1.length - (1 : Int) ∧ I b1.length - (1 : Int) ≤ I b1.length)) = true then
        if (decide (I (List.take (I b1.length - (1 : Int)).toNat b1).length = (0 : Int))) = true then
         some ((), ((b0_0, (b0_1, (b0_2 - (@List.getD Dop.Frm b1 (I b1.length - (1 : Int)).toNat Dop.d7).f.frame, (b0_3, (List.take (I b1.length - (1 : Int)).toNat b1, (true, ((1 : Int), ((@List.getD Dop.Frm b1 t2 Dop.d7).regs.getD b2.a.toNat (0 : Int), (b0_8, ()))))))))), ()))
        else
         if (decide ((0 : Int) ≤ (@List.getD Dop.Frm b1 (I b1.length - (1 : Int)).toNat Dop.d7).dst)) = true then
          if (inR (I (List.take (I b1.length - (1 : Int)).toNat b1).length - (1 : Int))) = true then
          if (decide ((0 : Int) ≤ I (List.take (I b1.length - (1 : Int)).toNat b1).length - (1 : Int) ∧ I (List.take (I b1.length - (1 : Int)).toNat b1).length - (1 : Int) < I (List.take (I b1.length - (1 : Int)).toNat b1).length)) = true then
          if (decide ((I (List.take (I b1.length - (1 : Int)).toNat b1).length - (1 : Int)).toNat < (List.take (I b1.length - (1 : Int)).toNat b1).length)) = true then
          if (decide ((I (List.take (I b1.length - (1 : Int)).toNat b1).length - (1 : Int)).toNat < (List.take (I b1.length - (1 : Int)).toNat b1).length ∧ (0 : Int) ≤ (@List.getD Dop.Frm b1 (I b1.length - (1 : Int)).toNat Dop.d7).dst ∧ (@List.getD Dop.Frm b1 (I b1.length - (1 : Int)).toNat Dop.d7).dst < I ((List.take (I b1.length - (1 : Int)).toNat b1).getD (I (List.take (I b1.length - (1 : Int)).toNat b1).length - (1 : Int)).toNat Dop.d7).regs.length)) = true then
          if (decide ((I (List.take (I b1.length - (1 : Int)).toNat b1).length - (1 : Int)).toNat < (List.take (I b1.length - (1 : Int)).toNat b1).length ∧ (@List.getD Dop.Frm b1 (I b1.length - (1 : Int)).toNat Dop.d7).dst.toNat < ((List.take (I b1.length - (1 : Int)).toNat b1).getD (I (List.take (I b1.length - (1 : Int)).toNat b1).length - (1 : Int)).toNat Dop.d7).regs.length)) = true then
          some ((), ((b0_0, (b0_1, (b0_2 - (@List.getD Dop.Frm b1 (I b1.length - (1 : Int)).toNat Dop.d7).f.frame, (b0_3, ((List.take (I b1.length - (1 : Int)).toNat b1).set (I (List.take (I b1.length - (1 : Int)).toNat b1).length - (1 : Int)).toNat (Dop.Frm.mk ((List.take (I b1.length - (1 : Int)).toNat b1).getD (I (List.take (I b1.length - (1 : Int)).toNat b1).length - (1 : Int)).toNat Dop.d7).f (((List.take (I b1.length - (1 : Int)).toNat b1).getD (I (List.take (I b1.length - (1 : Int)).toNat b1).length - (1 : Int)).toNat Dop.d7).regs.set (@List.getD Dop.Frm b1 (I b1.length - (1 : Int)).toNat Dop.d7).dst.toNat ((@List.getD Dop.Frm b1 t2 Dop.d7).regs.getD b2.a.toNat (0 : Int))) ((List.take (I b1.length - (1 : Int)).toNat b1).getD (I (List.take (I b1.length - (1 : Int)).toNat b1).length - (1 : Int)).toNat Dop.d7).base ((List.take (I b1.length - (1 : Int)).toNat b1).getD (I (List.take (I b1.length - (1 : Int)).toNat b1).length - (1 : Int)).toNat Dop.d7).at_ ((List.take (I b1.length - (1 : Int)).toNat b1).getD (I (List.take (I b1.length - (1 : Int)).toNat b1).length - (1 : Int)).toNat Dop.d7).dst), (b0_5, (b0_6, (b0_7, (b0_8, ()))))))))), ()))
          else none
          else none
          else none
          else none
          else none
         else
          some ((), ((b0_0, (b0_1, (b0_2 - (@List.getD Dop.Frm b1 (I b1.length - (1 : Int)).toNat Dop.d7).f.frame, (b0_3, (List.take (I b1.length - (1 : Int)).toNat b1, (b0_5, (b0_6, (b0_7, (b0_8, ()))))))))), ()))
        else none
        else none
        else none
        else none
        else none
        else none
        else none
        else none
        else none
       else
        if (decide (b2.kind = (1 : Int))) = true then
         if (decide (t2 < b1.length)) = true then
         if (decide (t2 < b1.length ∧ (0 : Int) ≤ b2.dst ∧ b2.dst < I (@List.getD Dop.Frm b1 t2 Dop.d7).regs.length)) = true then
         if (decide (t2 < b1.length ∧ b2.dst.toNat < (@List.getD Dop.Frm b1 t2 Dop.d7).regs.length)) = true then
         some ((), ((b0_0, (b0_1, (b0_2, (b0_3, (b1.set t2 (Dop.Frm.mk (@List.getD Dop.Frm b1 t2 Dop.d7).f ((@List.getD Dop.Frm b1 t2 Dop.d7).regs.set b2.dst.toNat b2.n) (@List.getD Dop.Frm b1 t2 Dop.d7).base (@List.getD Dop.Frm b1 t2 Dop.d7).at_ (@List.getD Dop.Frm b1 t2 Dop.d7).dst), (b0_5, (b0_6, (b0_7, (b0_8, ()))))))))), ()))
         else none
         else none
         else none
        else
         if (decide (b2.kind = (4 : Int))) = true then
          if (decide (t2 < b1.length)) = true then
          if (decide (t2 < b1.length)) = true then
          if (decide (t2 < b1.length ∧ (0 : Int) ≤ b2.a ∧ b2.a < I (@List.getD Dop.Frm b1 t2 Dop.d7).regs.length)) = true then
          if (decide (t2 < b1.length) && decide (b2.a.toNat < (@List.getD Dop.Frm b1 t2 Dop.d7).regs.length)) = true then
          if (decide (t2 < b1.length ∧ (0 : Int) ≤ b2.dst ∧ b2.dst < I (@List.getD Dop.Frm b1 t2 Dop.d7).regs.length)) = true then
          if (decide (t2 < b1.length ∧ b2.dst.toNat < (@List.getD Dop.Frm b1 t2 Dop.d7).regs.length)) = true then
          some ((), ((b0_0, (b0_1, (b0_2, (b0_3, (b1.set t2 (Dop.Frm.mk (@List.getD Dop.Frm b1 t2 Dop.d7).f ((@List.getD Dop.Frm b1 t2 Dop.d7).regs.set b2.dst.toNat ((@List.getD Dop.Frm b1 t2 Dop.d7).regs.getD b2.a.toNat (0 : Int))) (@List.getD Dop.Frm b1 t2 Dop.d7).base (@List.getD Dop.Frm b1 t2 Dop.d7).at_ (@List.getD Dop.Frm b1 t2 Dop.d7).dst), (b0_5, (b0_6, (b0_7, (b0_8, ()))))))))), ()))
          else none
          else none
          else none
          else none
          else none
          else none
         else
          if (decide (b2.kind = (5 : Int))) = true then
           if (decide (t2 < b1.length)) = true then
           if (decide (t2 < b1.length)) = true then
           if (inR ((@List.getD Dop.Frm b1 t2 Dop.d7).base + b2.n)) = true then
           (Tryd.m36 ((@List.getD Dop.Frm b1 t2 Dop.d7).base + b2.n)).bind fun y11 =>
            if (decide (t2 < b1.length ∧ (0 : Int) ≤ b2.dst ∧ b2.dst < I (@List.getD Dop.Frm b1 t2 Dop.d7).regs.length)) = true then
            if (decide (t2 < b1.length ∧ b2.dst.toNat < (@List.getD Dop.Frm b1 t2 Dop.d7).regs.length)) = true then
            some ((), ((b0_0, (b0_1, (b0_2, (b0_3, (b1.set t2 (Dop.Frm.mk (@List.getD Dop.Frm b1 t2 Dop.d7).f ((@List.getD Dop.Frm b1 t2 Dop.d7).regs.set b2.dst.toNat y11.fst.fst) (@List.getD Dop.Frm b1 t2 Dop.d7).base (@List.getD Dop.Frm b1 t2 Dop.d7).at_ (@List.getD Dop.Frm b1 t2 Dop.d7).dst), (b0_5, (b0_6, (b0_7, (b0_8, ()))))))))), ()))
            else none
            else none
           else none
           else none
           else none
          else
           if (decide (b2.kind = (2 : Int))) = true then
            if (decide (b2.kind = (2 : Int))) = true then
             if (decide (b2.kind = (3 : Int))) = true then
              if (decide (t2 < b1.length)) = true then
              if (decide (t2 < b1.length ∧ (0 : Int) ≤ b2.b ∧ b2.b < I (@List.getD Dop.Frm b1 t2 Dop.d7).regs.length)) = true then
              if (decide (t2 < b1.length) && decide (b2.b.toNat < (@List.getD Dop.Frm b1 t2 Dop.d7).regs.length)) = true then
              if (decide (t2 < b1.length)) = true then
              if (decide (t2 < b1.length ∧ (0 : Int) ≤ b2.a ∧ b2.a < I (@List.getD Dop.Frm b1 t2 Dop.d7).regs.length)) = true then
              if (decide (t2 < b1.length) && decide (b2.a.toNat < (@List.getD Dop.Frm b1 t2 Dop.d7).regs.length)) = true then
              (Tryd.m44 (b2.op) ((@List.getD Dop.Frm b1 t2 Dop.d7).regs.getD b2.a.toNat (0 : Int)) ((@List.getD Dop.Frm b1 t2 Dop.d7).regs.getD b2.b.toNat (0 : Int))).bind fun y14 =>
               if (!y14.fst.snd.fst) = true then
                some ((), ((b0_0, (b0_1, (b0_2, (b0_3, (b1, (true, ((2 : Int), ((2 : Int), (b0_8, ()))))))))), ()))
               else
                if (decide (t2 < b1.length)) = true then
                if (decide (t2 < b1.length ∧ (0 : Int) ≤ b2.dst ∧ b2.dst < I (@List.getD Dop.Frm b1 t2 Dop.d7).regs.length)) = true then
                if (decide (t2 < b1.length ∧ b2.dst.toNat < (@List.getD Dop.Frm b1 t2 Dop.d7).regs.length)) = true then
                some ((), ((b0_0, (b0_1, (b0_2, (b0_3, (b1.set t2 (Dop.Frm.mk (@List.getD Dop.Frm b1 t2 Dop.d7).f ((@List.getD Dop.Frm b1 t2 Dop.d7).regs.set b2.dst.toNat y14.fst.fst) (@List.getD Dop.Frm b1 t2 Dop.d7).base (@List.getD Dop.Frm b1 t2 Dop.d7).at_ (@List.getD Dop.Frm b1 t2 Dop.d7).dst), (b0_5, (b0_6, (b0_7, (b0_8, ()))))))))), ()))
                else none
                else none
                else none
              else none
              else none
              else none
              else none
              else none
              else none
             else
              if (decide (t2 < b1.length)) = true then
              if (decide (t2 < b1.length ∧ (0 : Int) ≤ b2.a ∧ b2.a < I (@List.getD Dop.Frm b1 t2 Dop.d7).regs.length)) = true then
              if (decide (t2 < b1.length) && decide (b2.a.toNat < (@List.getD Dop.Frm b1 t2 Dop.d7).regs.length)) = true then
              (Tryd.m44 (b2.op) ((@List.getD Dop.Frm b1 t2 Dop.d7).regs.getD b2.a.toNat (0 : Int)) ((0 : Int))).bind fun y14 =>
               if (!y14.fst.snd.fst) = true then
                some ((), ((b0_0, (b0_1, (b0_2, (b0_3, (b1, (true, ((2 : Int), ((2 : Int), (b0_8, ()))))))))), ()))
               else
                if (decide (t2 < b1.length)) = true then
                if (decide (t2 < b1.length ∧ (0 : Int) ≤ b2.dst ∧ b2.dst < I (@List.getD Dop.Frm b1 t2 Dop.d7).regs.length)) = true then
                if (decide (t2 < b1.length ∧ b2.dst.toNat < (@List.getD Dop.Frm b1 t2 Dop.d7).regs.length)) = true then
                some ((), ((b0_0, (b0_1, (b0_2, (b0_3, (b1.set t2 (Dop.Frm.mk (@List.getD Dop.Frm b1 t2 Dop.d7).f ((@List.getD Dop.Frm b1 t2 Dop.d7).regs.set b2.dst.toNat y14.fst.fst) (@List.getD Dop.Frm b1 t2 Dop.d7).base (@List.getD Dop.Frm b1 t2 Dop.d7).at_ (@List.getD Dop.Frm b1 t2 Dop.d7).dst), (b0_5, (b0_6, (b0_7, (b0_8, ()))))))))), ()))
                else none
                else none
                else none
              else none
              else none
              else none
            else
             some ((), ((b0_0, (b0_1, (b0_2, (b0_3, (b1, (b0_5, (b0_6, (b0_7, (b0_8, ()))))))))), ()))
           else
            if (decide (b2.kind = (3 : Int))) = true then
             if (decide (b2.kind = (3 : Int))) = true then
              if (decide (t2 < b1.length)) = true then
              if (decide (t2 < b1.length ∧ (0 : Int) ≤ b2.b ∧ b2.b < I (@List.getD Dop.Frm b1 t2 Dop.d7).regs.length)) = true then
              if (decide (t2 < b1.length) && decide (b2.b.toNat < (@List.getD Dop.Frm b1 t2 Dop.d7).regs.length)) = true then
              if (decide (t2 < b1.length)) = true then
              if (decide (t2 < b1.length ∧ (0 : Int) ≤ b2.a ∧ b2.a < I (@List.getD Dop.Frm b1 t2 Dop.d7).regs.length)) = true then
              if (decide (t2 < b1.length) && decide (b2.a.toNat < (@List.getD Dop.Frm b1 t2 Dop.d7).regs.length)) = true then
              (Tryd.m44 (b2.op) ((@List.getD Dop.Frm b1 t2 Dop.d7).regs.getD b2.a.toNat (0 : Int)) ((@List.getD Dop.Frm b1 t2 Dop.d7).regs.getD b2.b.toNat (0 : Int))).bind fun y14 =>
               if (!y14.fst.snd.fst) = true then
                some ((), ((b0_0, (b0_1, (b0_2, (b0_3, (b1, (true, ((2 : Int), ((2 : Int), (b0_8, ()))))))))), ()))
               else
                if (decide (t2 < b1.length)) = true then
                if (decide (t2 < b1.length ∧ (0 : Int) ≤ b2.dst ∧ b2.dst < I (@List.getD Dop.Frm b1 t2 Dop.d7).regs.length)) = true then
                if (decide (t2 < b1.length ∧ b2.dst.toNat < (@List.getD Dop.Frm b1 t2 Dop.d7).regs.length)) = true then
                some ((), ((b0_0, (b0_1, (b0_2, (b0_3, (b1.set t2 (Dop.Frm.mk (@List.getD Dop.Frm b1 t2 Dop.d7).f ((@List.getD Dop.Frm b1 t2 Dop.d7).regs.set b2.dst.toNat y14.fst.fst) (@List.getD Dop.Frm b1 t2 Dop.d7).base (@List.getD Dop.Frm b1 t2 Dop.d7).at_ (@List.getD Dop.Frm b1 t2 Dop.d7).dst), (b0_5, (b0_6, (b0_7, (b0_8, ()))))))))), ()))
                else none
                else none
                else none
              else none
              else none
              else none
              else none
              else none
              else none
             else
              if (decide (t2 < b1.length)) = true then
              if (decide (t2 < b1.length ∧ (0 : Int) ≤ b2.a ∧ b2.a < I (@List.getD Dop.Frm b1 t2 Dop.d7).regs.length)) = true then
              if (decide (t2 < b1.length) && decide (b2.a.toNat < (@List.getD Dop.Frm b1 t2 Dop.d7).regs.length)) = true then
              (Tryd.m44 (b2.op) ((@List.getD Dop.Frm b1 t2 Dop.d7).regs.getD b2.a.toNat (0 : Int)) ((0 : Int))).bind fun y14 =>
               if (!y14.fst.snd.fst) = true then
                some ((), ((b0_0, (b0_1, (b0_2, (b0_3, (b1, (true, ((2 : Int), ((2 : Int), (b0_8, ()))))))))), ()))
               else
                if (decide (t2 < b1.length)) = true then
                if (decide (t2 < b1.length ∧ (0 : Int) ≤ b2.dst ∧ b2.dst < I (@List.getD Dop.Frm b1 t2 Dop.d7).regs.length)) = true then
                if (decide (t2 < b1.length ∧ b2.dst.toNat < (@List.getD Dop.Frm b1 t2 Dop.d7).regs.length)) = true then
                some ((), ((b0_0, (b0_1, (b0_2, (b0_3, (b1.set t2 (Dop.Frm.mk (@List.getD Dop.Frm b1 t2 Dop.d7).f ((@List.getD Dop.Frm b1 t2 Dop.d7).regs.set b2.dst.toNat y14.fst.fst) (@List.getD Dop.Frm b1 t2 Dop.d7).base (@List.getD Dop.Frm b1 t2 Dop.d7).at_ (@List.getD Dop.Frm b1 t2 Dop.d7).dst), (b0_5, (b0_6, (b0_7, (b0_8, ()))))))))), ()))
                else none
                else none
                else none
              else none
              else none
              else none
            else
             some ((), ((b0_0, (b0_1, (b0_2, (b0_3, (b1, (b0_5, (b0_6, (b0_7, (b0_8, ()))))))))), ())) := Env.cut_eq' (E := Tryd.m21.E) (f0 := 3000) (c := 8) (q := ⟨[[0, 0, 1, 1, 0, 1, 1, 1, 1], [0, 1, 1, 1, 0, 1, 1, 1, 1], [1, 0]], [0, 2, 3, 37], 3, ⟨[.al 0 0, .ep 1 9 0, .al 2 0, .fd (.int .i64)], [⟨0, 64, [.mp (.str) 4 true, .own 0 3, .fd (.int .i64), .fd (.sl 2), .rw 1, .fd .bool, .fd (.int .i64), .fd (.int .i64), .own 2 5], false⟩, ⟨1, 0, [.dp 7 75], true⟩, ⟨2, 30, [.st 3], false⟩]⟩⟩) (by kernel_rfl) (((), t2, (), t37, ()), ((b0_0, b0_1, b0_2, b0_3, (), b0_5, b0_6, b0_7, b0_8, ()), (b1, ()), (b2, ()), ())) (by kernel_rfl) (by kernel_rfl)
theorem Tryd.m21_11_eq (t2 : Nat) (t4 : List (Int)) (t52 : List (Int)) (t53 : Int) (t54 : Int) (b0_0 : List (List UInt8 × En.Dop.Fnc)) (b0_1 : List (Int)) (b0_2 : Int) (b0_3 : List (Int)) (b0_5 : Bool) (b0_6 : Int) (b0_7 : Int) (b0_8 : List (Int)) (b1 : List (En.Dop.Frm)) (b2 : En.Dop.Ins) : Tryd.m21_11 t2 t4 t52 t53 t54 b0_0 b0_1 b0_2 b0_3 b0_5 b0_6 b0_7 b0_8 b1 b2 =
  if (decide (t54 < t53)) = true then
   if (decide ((0 : Int) ≤ t54 ∧ t54 < I t52.length)) = true then
   if (decide (t54.toNat < t52.length)) = true then
   if (decide (t2 < b1.length)) = true then
   if (decide (t2 < b1.length ∧ (0 : Int) ≤ @List.getD Int t52 t54.toNat (0 : Int) ∧ @List.getD Int t52 t54.toNat (0 : Int) < I (@List.getD Dop.Frm b1 t2 Dop.d7).regs.length)) = true then
   if (decide (t2 < b1.length) && decide ((@List.getD Int t52 t54.toNat (0 : Int)).toNat < (@List.getD Dop.Frm b1 t2 Dop.d7).regs.length)) = true then
   if (andC none (room (8 : Nat) (t4.length + ((@List.getD Dop.Frm b1 t2 Dop.d7).regs.getD (@List.getD Int t52 t54.toNat (0 : Int)).toNat (0 : Int) :: @List.nil Int).length))) = true then
   if (inR (t54 + (1 : Int))) = true then
   Tryd.m21_11 (t2) (t4 ++ (@List.getD Dop.Frm b1 t2 Dop.d7).regs.getD (@List.getD Int t52 t54.toNat (0 : Int)).toNat (0 : Int) :: @List.nil Int) (t52) (t53) (t54 + (1 : Int)) (b0_0) (b0_1) (b0_2) (b0_3) (b0_5) (b0_6) (b0_7) (b0_8) (b1) (b2)
   else none
   else none
   else none
   else none
   else none
   else none
   else none
  else
   if (inR (b0_2 + ((mlookS b0_0 b2.text).getD Dop.d4).frame)) = true then
   if (decide (I b0_1.length < b0_2 + ((mlookS b0_0 b2.text).getD Dop.d4).frame)) = true then
    some ((), ((b0_0, (b0_1, (b0_2, (b0_3, (b1, (true, ((3 : Int), ((0 : Int), (b0_8, ()))))))))), ()))
   else
    if (decide ((0 : Int) ≤ ((mlookS b0_0 b2.text).getD Dop.d4).regs ∧ ((mlookS b0_0 b2.text).getD Dop.d4).regs ≤ ((mlookS b0_0 b2.text).getD Dop.d4).regs ∧ ((mlookS b0_0 b2.text).getD Dop.d4).regs * (I (8 : Nat) + (1 : Int)) ≤ (140737488355328 : Int))) = true then
    if (inR (b0_2 + ((mlookS b0_0 b2.text).getD Dop.d4).frame)) = true then
    if (room (112 : Nat) (b1.length + (Dop.Frm.mk ((mlookS b0_0 b2.text).getD Dop.d4) (List.take (List.replicate ((mlookS b0_0 b2.text).getD Dop.d4).regs.toNat (0 : Int)).length t4 ++ List.drop t4.length (List.replicate ((mlookS b0_0 b2.text).getD Dop.d4).regs.toNat (0 : Int))) b0_2 (0 : Int) b2.dst :: @List.nil Dop.Frm).length)) = true then
    some ((), ((b0_0, (b0_1, (b0_2 + ((mlookS b0_0 b2.text).getD Dop.d4).frame, (b0_3, (b1 ++ Dop.Frm.mk ((mlookS b0_0 b2.text).getD Dop.d4) (List.take (List.replicate ((mlookS b0_0 b2.text).getD Dop.d4).regs.toNat (0 : Int)).length t4 ++ List.drop t4.length (List.replicate ((mlookS b0_0 b2.text).getD Dop.d4).regs.toNat (0 : Int))) b0_2 (0 : Int) b2.dst :: @List.nil Dop.Frm, (b0_5, (b0_6, (b0_7, (b0_8, ()))))))))), ()))
    else none
    else none
    else none
   else none := Env.cut_eq' (E := Tryd.m21.E) (f0 := 3000) (c := 11) (q := ⟨[[0, 0, 0, 0, 1, 0, 1, 0, 1, 1, 1, 0, 1, 1, 1, 1], [0, 1, 0, 0, 1, 0, 1, 0, 1, 1, 1, 0, 1, 1, 1, 1], [2, 0, 0, 1, 0, 1, 0, 1, 1, 1, 0, 1, 1, 1, 1], [1, 1], [0, 1, 1, 0, 1, 1, 1, 0, 1, 1, 1, 1], [1, 0]], [0, 2, 3, 4, 52, 53, 54], 3, ⟨[.al 0 0, .ep 1 9 0, .al 2 0, .own 0 3, .own 0 3, .fd (.int .i64), .fd (.int .i64)], [⟨0, 64, [.mp (.str) 4 true, .own 0 3, .fd (.int .i64), .fd (.sl 2), .rw 1, .fd .bool, .fd (.int .i64), .fd (.int .i64), .own 2 5], false⟩, ⟨1, 0, [.dp 7 75], true⟩, ⟨2, 30, [.st 3], false⟩]⟩⟩) (by kernel_rfl) (((), t2, (), t4, t52, t53, t54, ()), ((b0_0, b0_1, b0_2, b0_3, (), b0_5, b0_6, b0_7, b0_8, ()), (b1, ()), (b2, ()), ())) (by kernel_rfl) (by kernel_rfl)

def Tryd.m10.p : Pln := ⟨[(6, ⟨[[0, 0, 0, 0, 1, 0, 1, 1, 1, 1], [0, 1, 0, 0, 1, 0, 1, 1, 1, 1], [2, 0, 0, 1, 0, 1, 1, 1, 1], [1, 0], [0, 1, 1, 1, 1, 1]], [2, 3, 6, 7, 8, 40, 41, 42], 3, ⟨[.fd (.int .i64), .al 0 0, .al 1 0, .fd (.int .i64), .al 2 0, .fd (.sl 5), .fd (.int .i64), .fd (.int .i64)], [⟨0, 38, [.st 6], false⟩, ⟨1, 41, [.fd (.int .i64), .fd (.int .i64), .own 2 5], false⟩, ⟨2, 64, [.mp (.str) 4 true, .own 0 3, .fd (.int .i64), .fd (.sl 2), .dp 7 75, .fd .bool, .fd (.int .i64), .fd (.int .i64), .own 2 5], false⟩]⟩⟩), (12, ⟨[[0, 0, 0, 0, 1, 0, 1, 1, 1, 1, 1], [0, 1, 0, 0, 1, 0, 1, 1, 1, 1, 1], [2, 0, 0, 1, 0, 1, 1, 1, 1, 1], [1, 2], [0, 1, 1, 1, 1, 1, 1]], [2, 3, 6, 7, 8, 65, 66, 67], 3, ⟨[.fd (.int .i64), .al 0 0, .al 1 0, .fd (.int .i64), .al 2 0, .fd (.sl 4), .fd (.int .i64), .fd (.int .i64)], [⟨0, 38, [.st 6], false⟩, ⟨1, 41, [.fd (.int .i64), .fd (.int .i64), .own 2 5], false⟩, ⟨2, 64, [.mp (.str) 4 true, .own 0 3, .fd (.int .i64), .fd (.sl 2), .dp 7 75, .fd .bool, .fd (.int .i64), .fd (.int .i64), .own 2 5], false⟩]⟩⟩), (18, ⟨[[0, 0, 0, 0, 0, 1, 0, 1, 1, 1, 1, 1, 1, 1], [0, 1, 0, 0, 0, 1, 0, 1, 1, 1, 1, 1, 1, 1], [0, 1, 0, 0, 1, 0, 1, 1, 1, 1, 1, 1, 1], [2, 0, 0, 1, 0, 1, 1, 1, 1, 1, 1, 1], [1, 4], [0, 1, 1, 1, 1, 1, 1, 1, 1]], [2, 6, 8], 2, ⟨[.fd (.int .i64), .al 0 0, .al 1 0], [⟨0, 41, [.fd (.int .i64), .fd (.int .i64), .own 2 5], false⟩, ⟨1, 64, [.mp (.str) 4 true, .own 0 3, .fd (.int .i64), .fd (.sl 2), .dp 7 75, .fd .bool, .fd (.int .i64), .fd (.int .i64), .own 2 5], false⟩]⟩⟩)], 0, ⟨[.st 6, .fd (.sl 2), .fd (.int .i64)], []⟩, ⟨[.st 8], []⟩, false, [(4, ⟨[(0, false), (1, false), (2, true), (3, false), (4, true), (5, true), (6, false), (7, true)], [], [0, 0, 0, 4, 0, 31, 63, 127], false⟩), (8, ⟨[(0, true), (1, false), (2, true), (3, true), (4, true), (5, false), (6, false), (7, true)], [], [0, 1, 0, 4, 12, 28, 60, 127], false⟩), (9, ⟨[(0, true), (1, true), (2, true), (3, false), (4, true), (5, false), (6, true), (7, false), (8, false)], [9], [0, 1, 3, 7, 0, 16, 0, 64, 255, 511], false⟩), (14, ⟨[(0, true), (1, true), (2, true), (3, false), (4, true), (5, false), (6, false)], [7], [0, 1, 3, 7, 0, 16, 0, 127], false⟩)], [(20, [(1, ⟨[(0, true), (1, true), (2, true), (3, false), (4, true), (5, false), (6, true), (7, true), (8, true), (9, true), (10, false), (11, false), (12, true)], [], [0, 1, 3, 7, 0, 16, 63, 0, 128, 384, 896, 1920, 4095], false⟩), (3, ⟨[(0, false), (1, true), (2, false), (3, false), (4, true), (5, true), (6, true), (7, false), (8, true), (9, true), (10, false)], [11], [0, 0, 2, 6, 0, 16, 48, 112, 0, 511, 0, 2047], false⟩), (5, ⟨[(0, true), (1, true), (2, true), (3, false), (4, true), (5, false), (6, true), (7, true), (8, true)], [9], [0, 1, 3, 7, 0, 16, 63, 127, 255, 511], false⟩), (6, ⟨[(0, true), (1, true), (2, true), (3, true), (4, false), (5, false), (6, false)], [7, 8, 9, 10], [0, 0, 2, 6, 14, 0, 32, 126, 255, 511, 1023], false⟩)]), (22, [])]⟩
noncomputable def Tryd.m10.E : Env En.Dop.D7 := envOf Tryd.prog 10 Tryd.tb [Tryd.m19.c, Tryd.m11.c, Tryd.m21.c] Tryd.m10.p
theorem Tryd.m10.ok : plnOk En.Dop.D7 Tryd.prog 10 Tryd.m10.p = true := by kernel_rfl
noncomputable def Tryd.m10.c : Ctr En.Dop.D7 := ⟨10, Tryd.m10.p.bn, Tryd.m10.p.sp, Tryd.m10.p.rs, Tryd.m10.p.flat, .opt (Tryd.m10.E.run 3000 Tryd.m10.p.sp)⟩
theorem Tryd.m10.holds : Tryd.m10.c.Holds Tryd.prog := fun_ctr 3000 Tryd.tbOk (hct_cons Tryd.m19.holds (hct_cons Tryd.m11.holds (hct_cons Tryd.m21.holds hct_nil))) Tryd.m10.ok
noncomputable def Tryd.m10 (o : En.Dop.Unt) (t1 : List (Int)) (t2 : Int) : Option (Spec.D En.Dop.D7 ⟨[.st 8], []⟩) := Tryd.m10.E.run 3000 Tryd.m10.p.sp ((o, t1, t2, ()), ())
noncomputable def Tryd.m10_6 (t2 : Int) (t7 : Int) (t40 : List (En.Dop.Glb)) (t41 : Int) (t42 : Int) (b0 : En.Dop.Unt) (b1_0 : Int) (b1_1 : Int) (b1_2 : List (Int)) (b2_0 : List (List UInt8 × En.Dop.Fnc)) (b2_1 : List (Int)) (b2_2 : Int) (b2_3 : List (Int)) (b2_4 : List (En.Dop.Frm)) (b2_5 : Bool) (b2_6 : Int) (b2_7 : Int) (b2_8 : List (Int)) : Option (Spec.D En.Dop.D7 ⟨[.st 8], []⟩) := Tryd.m10.E.cut 3000 6 ((t2, (), (), t7, (), t40, t41, t42, ()), ((b0, ()), (b1_0, b1_1, b1_2, ()), (b2_0, b2_1, b2_2, b2_3, b2_4, b2_5, b2_6, b2_7, b2_8, ()), ()))
noncomputable def Tryd.m10_12 (t2 : Int) (t7 : Int) (t65 : List (En.Dop.Fnc)) (t66 : Int) (t67 : Int) (b0 : En.Dop.Unt) (b1_0 : Int) (b1_1 : Int) (b1_2 : List (Int)) (b2_0 : List (List UInt8 × En.Dop.Fnc)) (b2_1 : List (Int)) (b2_2 : Int) (b2_3 : List (Int)) (b2_4 : List (En.Dop.Frm)) (b2_5 : Bool) (b2_6 : Int) (b2_7 : Int) (b2_8 : List (Int)) : Option (Spec.D En.Dop.D7 ⟨[.st 8], []⟩) := Tryd.m10.E.cut 3000 12 ((t2, (), (), t7, (), t65, t66, t67, ()), ((b0, ()), (b1_0, b1_1, b1_2, ()), (b2_0, b2_1, b2_2, b2_3, b2_4, b2_5, b2_6, b2_7, b2_8, ()), ()))
noncomputable def Tryd.m10_18 (t2 : Int) (b0_0 : Int) (b0_1 : Int) (b0_2 : List (Int)) (b1_0 : List (List UInt8 × En.Dop.Fnc)) (b1_1 : List (Int)) (b1_2 : Int) (b1_3 : List (Int)) (b1_4 : List (En.Dop.Frm)) (b1_5 : Bool) (b1_6 : Int) (b1_7 : Int) (b1_8 : List (Int)) : Option (Spec.D En.Dop.D7 ⟨[.st 8], []⟩) := Tryd.m10.E.cut 3000 18 ((t2, (), (), ()), ((b0_0, b0_1, b0_2, ()), (b1_0, b1_1, b1_2, b1_3, b1_4, b1_5, b1_6, b1_7, b1_8, ()), ()))
theorem Tryd.m10_eq (o : En.Dop.Unt) (t1 : List (Int)) (t2 : Int) : Tryd.m10 o t1 t2 =
  (Tryd.m19 (o) ((109 : UInt8) :: (97 : UInt8) :: (105 : UInt8) :: (110 : UInt8) :: @List.nil UInt8)).bind fun y2 =>
   (Tryd.m11 (o)).bind fun y3 =>
    if (!y3.fst.fst) = true then
     some ((Dop.Res.mk (4 : Int) (0 : Int) (@List.nil Int), ()), ())
    else
     if (decide (y2.fst.fst < (0 : Int))) = true then
      some ((Dop.Res.mk (4 : Int) (0 : Int) (@List.nil Int), ()), ())
     else
      if (decide ((0 : Int) ≤ y2.fst.fst ∧ y2.fst.fst < I o.funcs.length)) = true then
      if (decide ((0 : Int) < (@List.getD Dop.Fnc o.funcs y2.fst.fst.toNat Dop.d4).params)) = true then
       some ((Dop.Res.mk (4 : Int) (0 : Int) (@List.nil Int), ()), ())
      else
       if (decide ((0 : Int) ≤ (4096 : Int) ∧ (4096 : Int) ≤ (4096 : Int) ∧ (4096 : Int) * (I (8 : Nat) + (1 : Int)) ≤ (140737488355328 : Int))) = true then
       Tryd.m10_6 (t2) (y2.fst.fst) (o.globals) (I o.globals.length) ((0 : Int)) (o) ((0 : Int)) ((0 : Int)) (@List.nil Int) (@List.nil (List UInt8 × Dop.Fnc)) (List.replicate (Int.toNat (4096 : Int)) (0 : Int)) (o.top) (t1) (@List.nil Dop.Frm) (false) ((0 : Int)) ((0 : Int)) (@List.nil Int)
       else none
      else none := by kernel_rfl
theorem Tryd.m10_6_eq (t2 : Int) (t7 : Int) (t40 : List (En.Dop.Glb)) (t41 : Int) (t42 : Int) (b0 : En.Dop.Unt) (b1_0 : Int) (b1_1 : Int) (b1_2 : List (Int)) (b2_0 : List (List UInt8 × En.Dop.Fnc)) (b2_1 : List (Int)) (b2_2 : Int) (b2_3 : List (Int)) (b2_4 : List (En.Dop.Frm)) (b2_5 : Bool) (b2_6 : Int) (b2_7 : Int) (b2_8 : List (Int)) : Tryd.m10_6 t2 t7 t40 t41 t42 b0 b1_0 b1_1 b1_2 b2_0 b2_1 b2_2 b2_3 b2_4 b2_5 b2_6 b2_7 b2_8 =
  if (decide (t42 < t41)) = true then
   if (decide ((0 : Int) ≤ t42 ∧ t42 < I t40.length)) = true then
   if (decide ((@List.getD Dop.Glb t40 t42.toNat Dop.d5).at_ < I b2_1.length)) = true then
    if (decide ((0 : Int) ≤ (@List.getD Dop.Glb t40 t42.toNat Dop.d5).at_ ∧ (@List.getD Dop.Glb t40 t42.toNat Dop.d5).at_ < I b2_1.length)) = true then
    if (decide ((@List.getD Dop.Glb t40 t42.toNat Dop.d5).at_.toNat < b2_1.length)) = true then
    if (inR (t42 + (1 : Int))) = true then
    Tryd.m10_6 (t2) (t7) (t40) (t41) (t42 + (1 : Int)) (b0) (b1_0) (b1_1) (b1_2) (b2_0) (b2_1.set (@List.getD Dop.Glb t40 t42.toNat Dop.d5).at_.toNat (@List.getD Dop.Glb t40 t42.toNat Dop.d5).init_) (b2_2) (b2_3) (b2_4) (b2_5) (b2_6) (b2_7) (b2_8)
    else none
    else none
    else none
   else
    if (inR (t42 + (1 : Int))) = true then
    Tryd.m10_6 (t2) (t7) (t40) (t41) (t42 + (1 : Int)) (b0) (b1_0) (b1_1) (b1_2) (b2_0) (b2_1) (b2_2) (b2_3) (b2_4) (b2_5) (b2_6) (b2_7) (b2_8)
    else none
   else none
  else
   Tryd.m10_12 (t2) (t7) (b0.funcs) (I b0.funcs.length) ((0 : Int)) (b0) (b1_0) (b1_1) (b1_2) (b2_0) (b2_1) (b2_2) (b2_3) (b2_4) (b2_5) (b2_6) (b2_7) (b2_8) := Env.cut_eq' (E := Tryd.m10.E) (f0 := 3000) (c := 6) (q := ⟨[[0, 0, 0, 0, 1, 0, 1, 1, 1, 1], [0, 1, 0, 0, 1, 0, 1, 1, 1, 1], [2, 0, 0, 1, 0, 1, 1, 1, 1], [1, 0], [0, 1, 1, 1, 1, 1]], [2, 3, 6, 7, 8, 40, 41, 42], 3, ⟨[.fd (.int .i64), .al 0 0, .al 1 0, .fd (.int .i64), .al 2 0, .fd (.sl 5), .fd (.int .i64), .fd (.int .i64)], [⟨0, 38, [.st 6], false⟩, ⟨1, 41, [.fd (.int .i64), .fd (.int .i64), .own 2 5], false⟩, ⟨2, 64, [.mp (.str) 4 true, .own 0 3, .fd (.int .i64), .fd (.sl 2), .dp 7 75, .fd .bool, .fd (.int .i64), .fd (.int .i64), .own 2 5], false⟩]⟩⟩) (by kernel_rfl) ((t2, (), (), t7, (), t40, t41, t42, ()), ((b0, ()), (b1_0, b1_1, b1_2, ()), (b2_0, b2_1, b2_2, b2_3, b2_4, b2_5, b2_6, b2_7, b2_8, ()), ())) (by kernel_rfl) (by kernel_rfl)
theorem Tryd.m10_12_eq (t2 : Int) (t7 : Int) (t65 : List (En.Dop.Fnc)) (t66 : Int) (t67 : Int) (b0 : En.Dop.Unt) (b1_0 : Int) (b1_1 : Int) (b1_2 : List (Int)) (b2_0 : List (List UInt8 × En.Dop.Fnc)) (b2_1 : List (Int)) (b2_2 : Int) (b2_3 : List (Int)) (b2_4 : List (En.Dop.Frm)) (b2_5 : Bool) (b2_6 : Int) (b2_7 : Int) (b2_8 : List (Int)) : Tryd.m10_12 t2 t7 t65 t66 t67 b0 b1_0 b1_1 b1_2 b2_0 b2_1 b2_2 b2_3 b2_4 b2_5 b2_6 b2_7 b2_8 =
  if (decide (t67 < t66)) = true then
   if (decide ((0 : Int) ≤ t67 ∧ t67 < I t65.length)) = true then
   if (inR (t67 + (1 : Int))) = true then
   Tryd.m10_12 (t2) (t7) (t65) (t66) (t67 + (1 : Int)) (b0) (b1_0) (b1_1) (b1_2) (mputS b2_0 (@List.getD Dop.Fnc t65 t67.toNat Dop.d4).name (@List.getD Dop.Fnc t65 t67.toNat Dop.d4)) (b2_1) (b2_2) (b2_3) (b2_4) (b2_5) (b2_6) (b2_7) (b2_8)
   else none
   else none
  else
   if (decide ((0 : Int) ≤ t7 ∧ t7 < I b0.funcs.length)) = true then
   if (inR (b2_2 + (@List.getD Dop.Fnc b0.funcs t7.toNat Dop.d4).frame)) = true then
   if (decide (I b2_1.length < b2_2 + (@List.getD Dop.Fnc b0.funcs t7.toNat Dop.d4).frame)) = true then
    Tryd.m10_18 (if (1000000 : Int) < if t2 < (0 : Int) then (0 : Int) else t2 then (1000000 : Int) else if t2 < (0 : Int) then (0 : Int) else t2) (b1_0) (b1_1) (b1_2) (b2_0) (b2_1) (b2_2) (b2_3) (b2_4) (true) ((3 : Int)) ((0 : Int)) (b2_8)
   else
    if (decide ((0 : Int) ≤ (@List.getD Dop.Fnc b0.funcs t7.toNat Dop.d4).regs ∧ (@List.getD Dop.Fnc b0.funcs t7.toNat Dop.d4).regs ≤ (@List.getD Dop.Fnc b0.funcs t7.toNat Dop.d4).regs ∧ (@List.getD Dop.Fnc b0.funcs t7.toNat Dop.d4).regs * (I (8 : Nat) + (1 : Int)) ≤ (140737488355328 : Int))) = true then
    if (inR (b2_2 + (@List.getD Dop.Fnc b0.funcs t7.toNat Dop.d4).frame)) = true then
    if (room (112 : Nat) (b2_4.length + (Dop.Frm.mk (@List.getD Dop.Fnc b0.funcs t7.toNat Dop.d4) (List.take (List.replicate (@List.getD Dop.Fnc b0.funcs t7.toNat Dop.d4).regs.toNat (0 : Int)).length (@List.nil Int) ++ List.drop (@List.nil Int).length (List.replicate (@List.getD Dop.Fnc b0.funcs t7.toNat Dop.d4).regs.toNat (0 : Int))) b2_2 (0 : Int) (-1 : Int) :: @List.nil Dop.Frm).length)) = true then
    Tryd.m10_18 (if (1000000 : Int) < if t2 < (0 : Int) then (0 : Int) else t2 then (1000000 : Int) else if t2 < (0 : Int) then (0 : Int) else t2) (b1_0) (b1_1) (b1_2) (b2_0) (b2_1) (b2_2 + (@List.getD Dop.Fnc b0.funcs t7.toNat Dop.d4).frame) (b2_3) (b2_4 ++ Dop.Frm.mk (@List.getD Dop.Fnc b0.funcs t7.toNat Dop.d4) (List.take (List.replicate (@List.getD Dop.Fnc b0.funcs t7.toNat Dop.d4).regs.toNat (0 : Int)).length (@List.nil Int) ++ List.drop (@List.nil Int).length (List.replicate (@List.getD Dop.Fnc b0.funcs t7.toNat Dop.d4).regs.toNat (0 : Int))) b2_2 (0 : Int) (-1 : Int) :: @List.nil Dop.Frm) (b2_5) (b2_6) (b2_7) (b2_8)
    else none
    else none
    else none
   else none
   else none := Env.cut_eq' (E := Tryd.m10.E) (f0 := 3000) (c := 12) (q := ⟨[[0, 0, 0, 0, 1, 0, 1, 1, 1, 1, 1], [0, 1, 0, 0, 1, 0, 1, 1, 1, 1, 1], [2, 0, 0, 1, 0, 1, 1, 1, 1, 1], [1, 2], [0, 1, 1, 1, 1, 1, 1]], [2, 3, 6, 7, 8, 65, 66, 67], 3, ⟨[.fd (.int .i64), .al 0 0, .al 1 0, .fd (.int .i64), .al 2 0, .fd (.sl 4), .fd (.int .i64), .fd (.int .i64)], [⟨0, 38, [.st 6], false⟩, ⟨1, 41, [.fd (.int .i64), .fd (.int .i64), .own 2 5], false⟩, ⟨2, 64, [.mp (.str) 4 true, .own 0 3, .fd (.int .i64), .fd (.sl 2), .dp 7 75, .fd .bool, .fd (.int .i64), .fd (.int .i64), .own 2 5], false⟩]⟩⟩) (by kernel_rfl) ((t2, (), (), t7, (), t65, t66, t67, ()), ((b0, ()), (b1_0, b1_1, b1_2, ()), (b2_0, b2_1, b2_2, b2_3, b2_4, b2_5, b2_6, b2_7, b2_8, ()), ())) (by kernel_rfl) (by kernel_rfl)
theorem Tryd.m10_18_eq (t2 : Int) (b0_0 : Int) (b0_1 : Int) (b0_2 : List (Int)) (b1_0 : List (List UInt8 × En.Dop.Fnc)) (b1_1 : List (Int)) (b1_2 : Int) (b1_3 : List (Int)) (b1_4 : List (En.Dop.Frm)) (b1_5 : Bool) (b1_6 : Int) (b1_7 : Int) (b1_8 : List (Int)) : Tryd.m10_18 t2 b0_0 b0_1 b0_2 b1_0 b1_1 b1_2 b1_3 b1_4 b1_5 b1_6 b1_7 b1_8 =
  if (decide ((0 : Int) < t2)) = true then
   if (!b1_5) = true then
    (Tryd.m21 (b1_0) (b1_1) (b1_2) (b1_3) (b1_4) (b1_5) (b1_6) (b1_7) (b1_8)).bind fun y4 =>
     if (inR (t2 - (1 : Int))) = true then
     Tryd.m10_18 (t2 - (1 : Int)) (b0_0) (b0_1) (b0_2) (y4.snd.fst.fst) (y4.snd.fst.snd.fst) (y4.snd.fst.snd.snd.fst) (y4.snd.fst.snd.snd.snd.fst) (y4.snd.fst.snd.snd.snd.snd.fst) (y4.snd.fst.snd.snd.snd.snd.snd.fst) (y4.snd.fst.snd.snd.snd.snd.snd.snd.fst) (y4.snd.fst.snd.snd.snd.snd.snd.snd.snd.fst) (y4.snd.fst.snd.snd.snd.snd.snd.snd.snd.snd.fst)
     else none
   else
    if (!b1_5) = true then
     some ((Dop.Res.mk (4 : Int) (0 : Int) b1_8, ()), ())
    else
     some ((Dop.Res.mk b1_6 b1_7 b1_8, ()), ())
  else
   if (!b1_5) = true then
    some ((Dop.Res.mk (4 : Int) (0 : Int) b1_8, ()), ())
   else
    some ((Dop.Res.mk b1_6 b1_7 b1_8, ()), ()) := Env.cut_eq' (E := Tryd.m10.E) (f0 := 3000) (c := 18) (q := ⟨[[0, 0, 0, 0, 0, 1, 0, 1, 1, 1, 1, 1, 1, 1], [0, 1, 0, 0, 0, 1, 0, 1, 1, 1, 1, 1, 1, 1], [0, 1, 0, 0, 1, 0, 1, 1, 1, 1, 1, 1, 1], [2, 0, 0, 1, 0, 1, 1, 1, 1, 1, 1, 1], [1, 4], [0, 1, 1, 1, 1, 1, 1, 1, 1]], [2, 6, 8], 2, ⟨[.fd (.int .i64), .al 0 0, .al 1 0], [⟨0, 41, [.fd (.int .i64), .fd (.int .i64), .own 2 5], false⟩, ⟨1, 64, [.mp (.str) 4 true, .own 0 3, .fd (.int .i64), .fd (.sl 2), .dp 7 75, .fd .bool, .fd (.int .i64), .fd (.int .i64), .own 2 5], false⟩]⟩⟩) (by kernel_rfl) ((t2, (), (), ()), ((b0_0, b0_1, b0_2, ()), (b1_0, b1_1, b1_2, b1_3, b1_4, b1_5, b1_6, b1_7, b1_8, ()), ())) (by kernel_rfl) (by kernel_rfl)

def Tryd.m12.p : Pln := ⟨[], 0, ⟨[.st 3], []⟩, ⟨[.fd (.int .i64)], []⟩, true, [], []⟩
noncomputable def Tryd.m12.E : Env En.Dop.D7 := envOf Tryd.prog 12 Tryd.tb [Tryd.m25.c] Tryd.m12.p
theorem Tryd.m12.ok : plnOk En.Dop.D7 Tryd.prog 12 Tryd.m12.p = true := by kernel_rfl
noncomputable def Tryd.m12.c : Ctr En.Dop.D7 := ⟨12, Tryd.m12.p.bn, Tryd.m12.p.sp, Tryd.m12.p.rs, Tryd.m12.p.flat, .opt (Tryd.m12.E.run 3000 Tryd.m12.p.sp)⟩
theorem Tryd.m12.holds : Tryd.m12.c.Holds Tryd.prog := fun_ctr 3000 Tryd.tbOk (hct_cons Tryd.m25.holds hct_nil) Tryd.m12.ok
noncomputable def Tryd.m12 (i : En.Dop.Ins) : Option (Spec.D En.Dop.D7 ⟨[.fd (.int .i64)], []⟩) := Tryd.m12.E.run 3000 Tryd.m12.p.sp ((i, ()), ())
theorem Tryd.m12_eq (i : En.Dop.Ins) : Tryd.m12 i =
  (Tryd.m25 (i.kind)).bind fun y2 =>
   if (!y2.fst.fst) = true then
    some (((-1 : Int), ()), ())
   else
    some ((i.dst, ()), ()) := by kernel_rfl

def Tryd.m5.p : Pln := ⟨[], 0, ⟨[], []⟩, ⟨[.fd .bool], []⟩, true, [], []⟩
noncomputable def Tryd.m5.E : Env En.Dop.D7 := envOf Tryd.prog 5 Tryd.tb [Tryd.m9.c, Tryd.m10.c, Tryd.m11.c, Tryd.m12.c] Tryd.m5.p
theorem Tryd.m5.ok : plnOk En.Dop.D7 Tryd.prog 5 Tryd.m5.p = true := by kernel_rfl
noncomputable def Tryd.m5.c : Ctr En.Dop.D7 := ⟨5, Tryd.m5.p.bn, Tryd.m5.p.sp, Tryd.m5.p.rs, Tryd.m5.p.flat, .opt (Tryd.m5.E.run 3000 Tryd.m5.p.sp)⟩
theorem Tryd.m5.holds : Tryd.m5.c.Holds Tryd.prog := fun_ctr 3000 Tryd.tbOk (hct_cons Tryd.m9.holds (hct_cons Tryd.m10.holds (hct_cons Tryd.m11.holds (hct_cons Tryd.m12.holds hct_nil)))) Tryd.m5.ok
noncomputable def Tryd.m5 : Option (Spec.D En.Dop.D7 ⟨[.fd .bool], []⟩) := Tryd.m5.E.run 3000 Tryd.m5.p.sp ((), ())
theorem Tryd.m5_eq : Tryd.m5 =
  (Tryd.m9 ((1 : Int))).bind fun y2 =>
   (Tryd.m9 ((13 : Int))).bind fun y3 =>
    (Tryd.m10 (Dop.Unt.mk (Dop.Fnc.mk ((109 : UInt8) :: (97 : UInt8) :: (105 : UInt8) :: (110 : UInt8) :: @List.nil UInt8) (0 : Int) (1 : Int) (0 : Int) (Dop.Ins.mk y2.fst.fst.kind y2.fst.fst.op (0 : Int) y2.fst.fst.a y2.fst.fst.b (7 : Int) y2.fst.fst.text y2.fst.fst.args0 y2.fst.fst.args1 y2.fst.fst.args2 y2.fst.fst.args3 y2.fst.fst.args4 y2.fst.fst.args5 y2.fst.fst.to_ y2.fst.fst.else_ :: y3.fst.fst :: @List.nil Dop.Ins) :: @List.nil Dop.Fnc) (@List.nil Dop.Glb) (1 : Int)) (@List.nil Int) ((9 : Int))).bind fun y4 =>
     (Tryd.m11 (Dop.Unt.mk (Dop.Fnc.mk ((109 : UInt8) :: (97 : UInt8) :: (105 : UInt8) :: (110 : UInt8) :: @List.nil UInt8) (0 : Int) (1 : Int) (0 : Int) (Dop.Ins.mk y2.fst.fst.kind y2.fst.fst.op (0 : Int) y2.fst.fst.a y2.fst.fst.b (7 : Int) y2.fst.fst.text y2.fst.fst.args0 y2.fst.fst.args1 y2.fst.fst.args2 y2.fst.fst.args3 y2.fst.fst.args4 y2.fst.fst.args5 y2.fst.fst.to_ y2.fst.fst.else_ :: y3.fst.fst :: @List.nil Dop.Ins) :: @List.nil Dop.Fnc) (@List.nil Dop.Glb) (1 : Int))).bind fun y5 =>
      if (y5.fst.fst) = true then
       if (decide (y4.fst.fst.end_ = (1 : Int))) = true then
        if (decide (y4.fst.fst.code = (7 : Int))) = true then
         (Tryd.m12 (Dop.Ins.mk y2.fst.fst.kind y2.fst.fst.op (0 : Int) y2.fst.fst.a y2.fst.fst.b (7 : Int) y2.fst.fst.text y2.fst.fst.args0 y2.fst.fst.args1 y2.fst.fst.args2 y2.fst.fst.args3 y2.fst.fst.args4 y2.fst.fst.args5 y2.fst.fst.to_ y2.fst.fst.else_)).bind fun y9 =>
          some ((decide (y9.fst.fst = (0 : Int)), ()), ())
        else
         some ((false, ()), ())
       else
        some ((false, ()), ())
      else
       some ((false, ()), ()) := by kernel_rfl

def Tryd.m13.p : Pln := ⟨[(4, ⟨[[0, 0, 0, 0, 1, 0, 1, 1], [0, 1, 0, 0, 1, 0, 1, 1], [2, 0, 0, 1, 0, 1, 1], [1, 0], [0, 1, 1, 1]], [0, 1, 12, 13], 0, ⟨[.fd (.sl 3), .fd (.sl 3), .fd (.int .i64), .fd (.int .i64)], []⟩⟩)], 0, ⟨[.fd (.sl 3), .fd (.sl 3)], []⟩, ⟨[.fd .bool], []⟩, true, [(6, ⟨[(0, true), (1, true), (2, false), (3, false), (4, true), (5, true), (6, false), (7, false), (8, true)], [], [0, 0, 3, 7, 0, 0, 48, 112, 255], false⟩)], []⟩
noncomputable def Tryd.m13.E : Env En.Dop.D7 := envOf Tryd.prog 13 Tryd.tb [] Tryd.m13.p
theorem Tryd.m13.ok : plnOk En.Dop.D7 Tryd.prog 13 Tryd.m13.p = true := by kernel_rfl
noncomputable def Tryd.m13.c : Ctr En.Dop.D7 := ⟨13, Tryd.m13.p.bn, Tryd.m13.p.sp, Tryd.m13.p.rs, Tryd.m13.p.flat, .opt (Tryd.m13.E.run 3000 Tryd.m13.p.sp)⟩
theorem Tryd.m13.holds : Tryd.m13.c.Holds Tryd.prog := fun_ctr 3000 Tryd.tbOk hct_nil Tryd.m13.ok
noncomputable def Tryd.m13 (s1 : List (En.Dop.Ins)) (s2 : List (En.Dop.Ins)) : Option (Spec.D En.Dop.D7 ⟨[.fd .bool], []⟩) := Tryd.m13.E.run 3000 Tryd.m13.p.sp ((s1, s2, ()), ())
noncomputable def Tryd.m13_4 (s1 : List (En.Dop.Ins)) (s2 : List (En.Dop.Ins)) (t12 : Int) (t13 : Int) : Option (Spec.D En.Dop.D7 ⟨[.fd .bool], []⟩) := Tryd.m13.E.cut 3000 4 ((s1, s2, t12, t13, ()), ())
theorem Tryd.m13_eq (s1 : List (En.Dop.Ins)) (s2 : List (En.Dop.Ins)) : Tryd.m13 s1 s2 =
  if (!decide (I s1.length = I s2.length)) = true then
   some ((false, ()), ())
  else
   Tryd.m13_4 (s1) (s2) (I s1.length) ((0 : Int)) := by kernel_rfl
theorem Tryd.m13_4_eq (s1 : List (En.Dop.Ins)) (s2 : List (En.Dop.Ins)) (t12 : Int) (t13 : Int) : Tryd.m13_4 s1 s2 t12 t13 =
  if (decide (t13 < t12)) = true then
   if (decide ((0 : Int) ≤ t13 ∧ t13 < I s1.length)) = true then
   if (decide ((0 : Int) ≤ t13 ∧ t13 < I s2.length)) = true then
   if (!eqSs (List.take (15 : Nat) (List.drop (0 : Nat) (SV.v (Value.int IntKind.i64 (@List.getD Dop.Ins s1 t13.toNat Dop.d3).kind) :: SV.v (Value.int IntKind.i64 (@List.getD Dop.Ins s1 t13.toNat Dop.d3).op) :: SV.v (Value.int IntKind.i64 (@List.getD Dop.Ins s1 t13.toNat Dop.d3).dst) :: SV.v (Value.int IntKind.i64 (@List.getD Dop.Ins s1 t13.toNat Dop.d3).a) :: SV.v (Value.int IntKind.i64 (@List.getD Dop.Ins s1 t13.toNat Dop.d3).b) :: SV.v (Value.int IntKind.i64 (@List.getD Dop.Ins s1 t13.toNat Dop.d3).n) :: SV.v (Value.string (ByteArray.mk (Array.mk (@List.getD Dop.Ins s1 t13.toNat Dop.d3).text))) :: SV.v (Value.int IntKind.i64 (@List.getD Dop.Ins s1 t13.toNat Dop.d3).args0) :: SV.v (Value.int IntKind.i64 (@List.getD Dop.Ins s1 t13.toNat Dop.d3).args1) :: SV.v (Value.int IntKind.i64 (@List.getD Dop.Ins s1 t13.toNat Dop.d3).args2) :: SV.v (Value.int IntKind.i64 (@List.getD Dop.Ins s1 t13.toNat Dop.d3).args3) :: SV.v (Value.int IntKind.i64 (@List.getD Dop.Ins s1 t13.toNat Dop.d3).args4) :: SV.v (Value.int IntKind.i64 (@List.getD Dop.Ins s1 t13.toNat Dop.d3).args5) :: SV.v (Value.int IntKind.i64 (@List.getD Dop.Ins s1 t13.toNat Dop.d3).to_) :: SV.v (Value.int IntKind.i64 (@List.getD Dop.Ins s1 t13.toNat Dop.d3).else_) :: @List.nil SV))) (List.take (15 : Nat) (List.drop (0 : Nat) (SV.v (Value.int IntKind.i64 (@List.getD Dop.Ins s2 t13.toNat Dop.d3).kind) :: SV.v (Value.int IntKind.i64 (@List.getD Dop.Ins s2 t13.toNat Dop.d3).op) :: SV.v (Value.int IntKind.i64 (@List.getD Dop.Ins s2 t13.toNat Dop.d3).dst) :: SV.v (Value.int IntKind.i64 (@List.getD Dop.Ins s2 t13.toNat Dop.d3).a) :: SV.v (Value.int IntKind.i64 (@List.getD Dop.Ins s2 t13.toNat Dop.d3).b) :: SV.v (Value.int IntKind.i64 (@List.getD Dop.Ins s2 t13.toNat Dop.d3).n) :: SV.v (Value.string (ByteArray.mk (Array.mk (@List.getD Dop.Ins s2 t13.toNat Dop.d3).text))) :: SV.v (Value.int IntKind.i64 (@List.getD Dop.Ins s2 t13.toNat Dop.d3).args0) :: SV.v (Value.int IntKind.i64 (@List.getD Dop.Ins s2 t13.toNat Dop.d3).args1) :: SV.v (Value.int IntKind.i64 (@List.getD Dop.Ins s2 t13.toNat Dop.d3).args2) :: SV.v (Value.int IntKind.i64 (@List.getD Dop.Ins s2 t13.toNat Dop.d3).args3) :: SV.v (Value.int IntKind.i64 (@List.getD Dop.Ins s2 t13.toNat Dop.d3).args4) :: SV.v (Value.int IntKind.i64 (@List.getD Dop.Ins s2 t13.toNat Dop.d3).args5) :: SV.v (Value.int IntKind.i64 (@List.getD Dop.Ins s2 t13.toNat Dop.d3).to_) :: SV.v (Value.int IntKind.i64 (@List.getD Dop.Ins s2 t13.toNat Dop.d3).else_) :: @List.nil SV)))) = true then
    some ((false, ()), ())
   else
    if (inR (t13 + (1 : Int))) = true then
    Tryd.m13_4 (s1) (s2) (t12) (t13 + (1 : Int))
    else none
   else none
   else none
  else
   some ((true, ()), ()) := Env.cut_eq' (E := Tryd.m13.E) (f0 := 3000) (c := 4) (q := ⟨[[0, 0, 0, 0, 1, 0, 1, 1], [0, 1, 0, 0, 1, 0, 1, 1], [2, 0, 0, 1, 0, 1, 1], [1, 0], [0, 1, 1, 1]], [0, 1, 12, 13], 0, ⟨[.fd (.sl 3), .fd (.sl 3), .fd (.int .i64), .fd (.int .i64)], []⟩⟩) (by kernel_rfl) ((s1, s2, t12, t13, ()), ()) (by kernel_rfl) (by kernel_rfl)

def Tryd.m6.p : Pln := ⟨[], 0, ⟨[.st 4, .st 4], []⟩, ⟨[.fd .bool], []⟩, true, [], []⟩
noncomputable def Tryd.m6.E : Env En.Dop.D7 := envOf Tryd.prog 6 Tryd.tb [Tryd.m13.c] Tryd.m6.p
theorem Tryd.m6.ok : plnOk En.Dop.D7 Tryd.prog 6 Tryd.m6.p = true := by kernel_rfl
noncomputable def Tryd.m6.c : Ctr En.Dop.D7 := ⟨6, Tryd.m6.p.bn, Tryd.m6.p.sp, Tryd.m6.p.rs, Tryd.m6.p.flat, .opt (Tryd.m6.E.run 3000 Tryd.m6.p.sp)⟩
theorem Tryd.m6.holds : Tryd.m6.c.Holds Tryd.prog := fun_ctr 3000 Tryd.tbOk (hct_cons Tryd.m13.holds hct_nil) Tryd.m6.ok
noncomputable def Tryd.m6 (a : En.Dop.Fnc) (b : En.Dop.Fnc) : Option (Spec.D En.Dop.D7 ⟨[.fd .bool], []⟩) := Tryd.m6.E.run 3000 Tryd.m6.p.sp ((a, b, ()), ())
theorem Tryd.m6_eq (a : En.Dop.Fnc) (b : En.Dop.Fnc) : Tryd.m6 a b =
  if (decide (a.name = b.name)) = true then
   if (decide (a.params = b.params)) = true then
    if (decide (a.regs = b.regs)) = true then
     if (decide (a.frame = b.frame)) = true then
      (Tryd.m13 (a.code) (b.code)).bind fun y6 =>
       some ((y6.fst.fst, ()), ())
     else
      some ((false, ()), ())
    else
     some ((false, ()), ())
   else
    some ((false, ()), ())
  else
   some ((false, ()), ()) := by kernel_rfl
end Go.Proofs
