/-
 Functions of the seat, lifted: plan, model, contract, equations. Written by a program (Lift) that ran the layer's evaluation; Lean checks each line.
-/
import Derived.Test.YtkpokomghbhadaaDoorLfC
set_option maxRecDepth 100000
set_option maxHeartbeats 4000000
namespace Go.Proofs
open Go Go.En
open Tryd
def Tryd.m80.p : Pln := ⟨[], 1, ⟨[.al 0 0], [bxA]⟩, ⟨[.fd (.int .i64)], [bxB]⟩, false, [], []⟩
noncomputable def Tryd.m80.E : Env En.Dop.D4 := envOf Tryd.prog 80 Tryd.tb [Tryd.m33.c, Tryd.m79.cf] Tryd.m80.p
theorem Tryd.m80.ok : plnOk En.Dop.D4 Tryd.prog 80 Tryd.m80.p = true := by kernel_rfl
noncomputable def Tryd.m80.c : Ctr En.Dop.D4 := ⟨80, Tryd.m80.p.bn, Tryd.m80.p.sp, Tryd.m80.p.rs, Tryd.m80.p.flat, .opt (Tryd.m80.E.run 3000 Tryd.m80.p.sp)⟩
theorem Tryd.m80.holds : Tryd.m80.c.Holds Tryd.prog := fun_ctr 3000 Tryd.tbOk (hct_cons Tryd.m33.holds (hct_cons Tryd.m79.holdsf hct_nil)) Tryd.m80.ok
noncomputable def Tryd.m80 (c0 : List Dop.Tok) (c1 : Int) (c2 : List Dop.Nde) (c3 : List Dop.Typ) (c4 c5 c6 c7 : Int) : Option (Spec.D En.Dop.D4 ⟨[.fd (.int .i64)], [bxB]⟩) := Tryd.m80.E.run 3000 Tryd.m80.p.sp (((), ()), ((c0, c1, c2, c3, c4, c5, c6, c7, ()), ()))
theorem Tryd.m80_eq (c0 : List Dop.Tok) (c1 : Int) (c2 : List Dop.Nde) (c3 : List Dop.Typ) (c4 c5 c6 c7 : Int) : m80 c0 c1 c2 c3 c4 c5 c6 c7 =
 (m33 ([40] : List UInt8) c0 c1 c2 c3 c4 c5 c6 c7).bind fun y2 =>
  (m79 (FU) y2.2.1.1 y2.2.1.2.1 y2.2.1.2.2.1 y2.2.1.2.2.2.1 y2.2.1.2.2.2.2.1 y2.2.1.2.2.2.2.2.1 y2.2.1.2.2.2.2.2.2.1 y2.2.1.2.2.2.2.2.2.2.1).bind fun y3 =>
  (m33 ([41] : List UInt8) y3.2.1.1 y3.2.1.2.1 y3.2.1.2.2.1 y3.2.1.2.2.2.1 y3.2.1.2.2.2.2.1 y3.2.1.2.2.2.2.2.1 y3.2.1.2.2.2.2.2.2.1 y3.2.1.2.2.2.2.2.2.2.1).bind fun y4 =>
 some ((y3.1.1, ()), ((y4.2.1.1, (y4.2.1.2.1, (y4.2.1.2.2.1, (y4.2.1.2.2.2.1, (y4.2.1.2.2.2.2.1, (y4.2.1.2.2.2.2.2.1, (y4.2.1.2.2.2.2.2.2.1, (y4.2.1.2.2.2.2.2.2.2.1, ())))))))), ())) := by kernel_rfl
def Tryd.m81.p : Pln := ⟨[], 1, ⟨[.al 0 0, .fd .str], [bxA]⟩, ⟨[.fd (.int .i64)], [bxB]⟩, false, [], []⟩
noncomputable def Tryd.m81.E : Env En.Dop.D4 := envOf Tryd.prog 81 Tryd.tb [Tryd.m35.c, Tryd.m79.cf, Tryd.m33.c] Tryd.m81.p
theorem Tryd.m81.ok : plnOk En.Dop.D4 Tryd.prog 81 Tryd.m81.p = true := by kernel_rfl
noncomputable def Tryd.m81.c : Ctr En.Dop.D4 := ⟨81, Tryd.m81.p.bn, Tryd.m81.p.sp, Tryd.m81.p.rs, Tryd.m81.p.flat, .opt (Tryd.m81.E.run 3000 Tryd.m81.p.sp)⟩
theorem Tryd.m81.holds : Tryd.m81.c.Holds Tryd.prog := fun_ctr 3000 Tryd.tbOk (hct_cons Tryd.m35.holds (hct_cons Tryd.m79.holdsf (hct_cons Tryd.m33.holds hct_nil))) Tryd.m81.ok
noncomputable def Tryd.m81 (s : List UInt8) (c0 : List Dop.Tok) (c1 : Int) (c2 : List Dop.Nde) (c3 : List Dop.Typ) (c4 c5 c6 c7 : Int) : Option (Spec.D En.Dop.D4 ⟨[.fd (.int .i64)], [bxB]⟩) := Tryd.m81.E.run 3000 Tryd.m81.p.sp (((), s, ()), ((c0, c1, c2, c3, c4, c5, c6, c7, ()), ()))
theorem Tryd.m81_eq (s : List UInt8) (c0 : List Dop.Tok) (c1 : Int) (c2 : List Dop.Nde) (c3 : List Dop.Typ) (c4 c5 c6 c7 : Int) : m81 s c0 c1 c2 c3 c4 c5 c6 c7 =
 (m35 (s) c0 c1 c2 c3 c4 c5 c6 c7).bind fun y2 =>
 if y2.1.1 = true then
 some (((-1 : Int), ()), ((y2.2.1.1, (y2.2.1.2.1, (y2.2.1.2.2.1, (y2.2.1.2.2.2.1, (y2.2.1.2.2.2.2.1, (y2.2.1.2.2.2.2.2.1, (y2.2.1.2.2.2.2.2.2.1, (y2.2.1.2.2.2.2.2.2.2.1, ())))))))), ()))
 else
  (m79 (FU) y2.2.1.1 y2.2.1.2.1 y2.2.1.2.2.1 y2.2.1.2.2.2.1 y2.2.1.2.2.2.2.1 y2.2.1.2.2.2.2.2.1 y2.2.1.2.2.2.2.2.2.1 y2.2.1.2.2.2.2.2.2.2.1).bind fun y4 =>
   (m33 (s) y4.2.1.1 y4.2.1.2.1 y4.2.1.2.2.1 y4.2.1.2.2.2.1 y4.2.1.2.2.2.2.1 y4.2.1.2.2.2.2.2.1 y4.2.1.2.2.2.2.2.2.1 y4.2.1.2.2.2.2.2.2.2.1).bind fun y5 =>
 some ((y4.1.1, ()), ((y5.2.1.1, (y5.2.1.2.1, (y5.2.1.2.2.1, (y5.2.1.2.2.2.1, (y5.2.1.2.2.2.2.1, (y5.2.1.2.2.2.2.2.1, (y5.2.1.2.2.2.2.2.2.1, (y5.2.1.2.2.2.2.2.2.2.1, ())))))))), ())) := by kernel_rfl
def Tryd.m39.p : Pln := ⟨[(4, ⟨[[0, 0, 0, 0, 0, 0, 1, 1, 1, 1], [0, 1, 0, 0, 0, 0, 1, 1, 1, 1], [0, 1, 0, 0, 0, 1, 1, 1, 1], [2, 0, 0, 0, 1, 1, 1, 1], [1, 0], [0, 1, 1, 1, 1, 1]], [0, 3, 4], 2, ⟨[.al 0 0, .al 1 0, .own 0 3], [bxB, ⟨1, 36, [.st 5], false⟩]⟩⟩)], 1, ⟨[.al 0 0], [bxA]⟩, ⟨[.fd (.int .i64)], [bxA]⟩, false, [], []⟩
theorem Tryd.m39.ok : plnOk En.Dop.D4 Tryd.prog 39 Tryd.m39.p = true := by kernel_rfl
def Tryd.m51.p : Pln := ⟨[], 1, ⟨[.al 0 0], [bxA]⟩, ⟨[.fd (.int .i64)], [bxA]⟩, false, [], []⟩
theorem Tryd.m51.ok : plnOk En.Dop.D4 Tryd.prog 51 Tryd.m51.p = true := by kernel_rfl
def Tryd.m65_1000066.p : Pln := ⟨[], 1, ⟨[.al 0 0, .fn 1000066 [(0, 0)]], [bxA]⟩, ⟨[.fd (.int .i64)], [bxA]⟩, false, [], []⟩
def Tryd.m66.p : Pln := ⟨[(64, ⟨[[0, 0, 1, 1, 1], [0, 1, 1, 1, 1]], [0, 3], 2, ⟨[.al 0 0, .al 1 0], [bxB, ⟨1, 36, [.st 5], false⟩]⟩⟩), (13, ⟨[[0, 1, 1, 1, 1, 0, 1, 1, 1, 1, 1, 0, 0, 1, 1], [1, 0], [0, 1, 1, 1]], [0, 3], 2, ⟨[.al 0 0, .al 1 0], [bxB, ⟨1, 36, [.st 5], false⟩]⟩⟩), (53, ⟨[[0, 0, 1, 1, 1, 0, 1, 1, 1, 1, 1, 1, 1, 1, 1, 1, 1, 1, 1, 1, 1, 1, 1, 1, 1, 1, 1, 1, 1, 1, 1, 0, 0, 1, 1], [0, 1, 1, 1, 1, 0, 1, 1, 1, 1, 1, 1, 1, 1, 1, 1, 1, 1, 1, 1, 1, 1, 1, 1, 1, 1, 1, 1, 1, 1, 1, 0, 0, 1, 1], [1, 0], [0, 1, 1, 1]], [0, 3, 4], 2, ⟨[.al 0 0, .al 1 0, .fd (.int .i64)], [bxB, ⟨1, 36, [.st 5], false⟩]⟩⟩)], 1, ⟨[.al 0 0], [bxA]⟩, ⟨[.fd (.int .i64)], [bxA]⟩, false, [], []⟩
theorem Tryd.m66.ok : plnOk En.Dop.D4 Tryd.prog 66 Tryd.m66.p = true := by kernel_rfl
@[reducible] def Tryd.g39.T : Type := (Spec.D En.Dop.D4 ⟨[.al 0 0], [bxA]⟩ → Option (Spec.D En.Dop.D4 ⟨[.fd (.int .i64)], [bxA]⟩)) × (Spec.D En.Dop.D4 ⟨[.al 0 0], [bxA]⟩ → Option (Spec.D En.Dop.D4 ⟨[.fd (.int .i64)], [bxA]⟩)) × (Spec.D En.Dop.D4 ⟨[.al 0 0, .fn 1000066 [(0, 0)]], [bxA]⟩ → Option (Spec.D En.Dop.D4 ⟨[.fd (.int .i64)], [bxA]⟩)) × (Spec.D En.Dop.D4 ⟨[.al 0 0], [bxA]⟩ → Option (Spec.D En.Dop.D4 ⟨[.fd (.int .i64)], [bxA]⟩)) × Unit
noncomputable def Tryd.g39.step (r : Tryd.g39.T) : Tryd.g39.T := ((envOf Tryd.prog 39 Tryd.tb ([⟨39, Tryd.m39.p.bn, Tryd.m39.p.sp, Tryd.m39.p.rs, Tryd.m39.p.flat, .opt (r.1)⟩, ⟨51, Tryd.m51.p.bn, Tryd.m51.p.sp, Tryd.m51.p.rs, Tryd.m51.p.flat, .opt (r.2.1)⟩, ⟨65, Tryd.m65_1000066.p.bn, Tryd.m65_1000066.p.sp, Tryd.m65_1000066.p.rs, Tryd.m65_1000066.p.flat, .opt (r.2.2.1)⟩, ⟨66, Tryd.m66.p.bn, Tryd.m66.p.sp, Tryd.m66.p.rs, Tryd.m66.p.flat, .opt (r.2.2.2.1)⟩] ++ [Tryd.m14.c, Tryd.m31.c, Tryd.m33.c, Tryd.m35.c, Tryd.m16.c, Tryd.m38.c]) Tryd.m39.p).run 3000 Tryd.m39.p.sp, (envOf Tryd.prog 51 Tryd.tb ([⟨39, Tryd.m39.p.bn, Tryd.m39.p.sp, Tryd.m39.p.rs, Tryd.m39.p.flat, .opt (r.1)⟩, ⟨51, Tryd.m51.p.bn, Tryd.m51.p.sp, Tryd.m51.p.rs, Tryd.m51.p.flat, .opt (r.2.1)⟩, ⟨65, Tryd.m65_1000066.p.bn, Tryd.m65_1000066.p.sp, Tryd.m65_1000066.p.rs, Tryd.m65_1000066.p.flat, .opt (r.2.2.1)⟩, ⟨66, Tryd.m66.p.bn, Tryd.m66.p.sp, Tryd.m66.p.rs, Tryd.m66.p.flat, .opt (r.2.2.2.1)⟩] ++ []) Tryd.m51.p).run 3000 Tryd.m51.p.sp, fun x => Tryd.within r.2.2.2.1 x.2.1, (envOf Tryd.prog 66 Tryd.tb ([⟨39, Tryd.m39.p.bn, Tryd.m39.p.sp, Tryd.m39.p.rs, Tryd.m39.p.flat, .opt (r.1)⟩, ⟨51, Tryd.m51.p.bn, Tryd.m51.p.sp, Tryd.m51.p.rs, Tryd.m51.p.flat, .opt (r.2.1)⟩, ⟨65, Tryd.m65_1000066.p.bn, Tryd.m65_1000066.p.sp, Tryd.m65_1000066.p.rs, Tryd.m65_1000066.p.flat, .opt (r.2.2.1)⟩, ⟨66, Tryd.m66.p.bn, Tryd.m66.p.sp, Tryd.m66.p.rs, Tryd.m66.p.flat, .opt (r.2.2.2.1)⟩] ++ [Tryd.m14.c, Tryd.m31.c, Tryd.m32.c, Tryd.m35.c, Tryd.m78.c, Tryd.m49.c, Tryd.m34.c, Tryd.m37.c, Tryd.m79.cf, Tryd.m33.c, Tryd.m80.c, Tryd.m81.c, Tryd.m82.c, Tryd.m38.c]) Tryd.m66.p).run 3000 Tryd.m66.p.sp, ())
noncomputable def Tryd.g39.R (n : Nat) : Tryd.g39.T := Nat.rec (motive := fun _ => Tryd.g39.T) (fun _ => none, fun _ => none, fun _ => none, fun _ => none, ()) (fun _ r => Tryd.g39.step r) n
noncomputable def Tryd.m39.R (n : Nat) : Spec.D En.Dop.D4 ⟨[.al 0 0], [bxA]⟩ → Option (Spec.D En.Dop.D4 ⟨[.fd (.int .i64)], [bxA]⟩) := (Tryd.g39.R n).1
noncomputable def Tryd.m39.c (n : Nat) : Ctr En.Dop.D4 := ⟨39, Tryd.m39.p.bn, Tryd.m39.p.sp, Tryd.m39.p.rs, Tryd.m39.p.flat, .opt (Tryd.m39.R n)⟩
noncomputable def Tryd.m39.cf : Ctr En.Dop.D4 := Tryd.m39.c FU
noncomputable def Tryd.m51.R (n : Nat) : Spec.D En.Dop.D4 ⟨[.al 0 0], [bxA]⟩ → Option (Spec.D En.Dop.D4 ⟨[.fd (.int .i64)], [bxA]⟩) := (Tryd.g39.R n).2.1
noncomputable def Tryd.m51.c (n : Nat) : Ctr En.Dop.D4 := ⟨51, Tryd.m51.p.bn, Tryd.m51.p.sp, Tryd.m51.p.rs, Tryd.m51.p.flat, .opt (Tryd.m51.R n)⟩
noncomputable def Tryd.m65_1000066.R (n : Nat) : Spec.D En.Dop.D4 ⟨[.al 0 0, .fn 1000066 [(0, 0)]], [bxA]⟩ → Option (Spec.D En.Dop.D4 ⟨[.fd (.int .i64)], [bxA]⟩) := (Tryd.g39.R n).2.2.1
noncomputable def Tryd.m65_1000066.c (n : Nat) : Ctr En.Dop.D4 := ⟨65, Tryd.m65_1000066.p.bn, Tryd.m65_1000066.p.sp, Tryd.m65_1000066.p.rs, Tryd.m65_1000066.p.flat, .opt (Tryd.m65_1000066.R n)⟩
noncomputable def Tryd.m66.R (n : Nat) : Spec.D En.Dop.D4 ⟨[.al 0 0], [bxA]⟩ → Option (Spec.D En.Dop.D4 ⟨[.fd (.int .i64)], [bxA]⟩) := (Tryd.g39.R n).2.2.2.1
noncomputable def Tryd.m66.c (n : Nat) : Ctr En.Dop.D4 := ⟨66, Tryd.m66.p.bn, Tryd.m66.p.sp, Tryd.m66.p.rs, Tryd.m66.p.flat, .opt (Tryd.m66.R n)⟩
noncomputable def Tryd.m39.E (n : Nat) : Env En.Dop.D4 := envOf Tryd.prog 39 Tryd.tb ([Tryd.m39.c n, Tryd.m51.c n, Tryd.m65_1000066.c n, Tryd.m66.c n] ++ [Tryd.m14.c, Tryd.m31.c, Tryd.m33.c, Tryd.m35.c, Tryd.m16.c, Tryd.m38.c]) Tryd.m39.p
noncomputable def Tryd.m66.E (n : Nat) : Env En.Dop.D4 := envOf Tryd.prog 66 Tryd.tb ([Tryd.m39.c n, Tryd.m51.c n, Tryd.m65_1000066.c n, Tryd.m66.c n] ++ [Tryd.m14.c, Tryd.m31.c, Tryd.m32.c, Tryd.m35.c, Tryd.m78.c, Tryd.m49.c, Tryd.m34.c, Tryd.m37.c, Tryd.m79.cf, Tryd.m33.c, Tryd.m80.c, Tryd.m81.c, Tryd.m82.c, Tryd.m38.c]) Tryd.m66.p
theorem Tryd.g39.all : ∀ n, (Tryd.m39.c n).Holds Tryd.prog ∧ (Tryd.m51.c n).Holds Tryd.prog ∧ (Tryd.m65_1000066.c n).Holds Tryd.prog ∧ (Tryd.m66.c n).Holds Tryd.prog ∧ True
 | 0 => ⟨ctr_none Tryd.tbOk Tryd.m39.ok, ctr_none Tryd.tbOk Tryd.m51.ok, ctr_none Tryd.tbOk (by kernel_rfl), ctr_none Tryd.tbOk Tryd.m66.ok, trivial⟩
 | n + 1 => by
  obtain ⟨h0, h1, h2, h3, _⟩ := Tryd.g39.all n
  exact ⟨fun_ctr 3000 Tryd.tbOk (hct_app (hct_cons h0 (hct_cons h1 (hct_cons h2 (hct_cons h3 hct_nil)))) (hct_cons Tryd.m14.holds (hct_cons Tryd.m31.holds (hct_cons Tryd.m33.holds (hct_cons Tryd.m35.holds (hct_cons Tryd.m16.holds (hct_cons Tryd.m38.holds hct_nil))))))) Tryd.m39.ok, fun_ctr 3000 Tryd.tbOk (hct_app (hct_cons h0 (hct_cons h1 (hct_cons h2 (hct_cons h3 hct_nil)))) hct_nil) Tryd.m51.ok, (w66.holds (m := Tryd.m66.R n) h3), fun_ctr 3000 Tryd.tbOk (hct_app (hct_cons h0 (hct_cons h1 (hct_cons h2 (hct_cons h3 hct_nil)))) (hct_cons Tryd.m14.holds (hct_cons Tryd.m31.holds (hct_cons Tryd.m32.holds (hct_cons Tryd.m35.holds (hct_cons Tryd.m78.holds (hct_cons Tryd.m49.holds (hct_cons Tryd.m34.holds (hct_cons Tryd.m37.holds (hct_cons Tryd.m79.holdsf (hct_cons Tryd.m33.holds (hct_cons Tryd.m80.holds (hct_cons Tryd.m81.holds (hct_cons Tryd.m82.holds (hct_cons Tryd.m38.holds hct_nil))))))))))))))) Tryd.m66.ok, trivial⟩
theorem Tryd.m39.holdsf : Tryd.m39.cf.Holds Tryd.prog := (Tryd.g39.all FU).1
noncomputable def Tryd.m39 (n : Nat) (c0 : List Dop.Tok) (c1 : Int) (c2 : List Dop.Nde) (c3 : List Dop.Typ) (c4 c5 c6 c7 : Int) : Option (Spec.D En.Dop.D4 ⟨[.fd (.int .i64)], [bxA]⟩) := Tryd.m39.R n (((), ()), ((c0, c1, c2, c3, c4, c5, c6, c7, ()), ()))
noncomputable def Tryd.m39_4 (n : Nat) (l : List (Int)) (c0 : List Dop.Tok) (c1 : Int) (c2 : List Dop.Nde) (c3 : List Dop.Typ) (c4 c5 c6 c7 : Int) (b1 : Dop.Nde) : Option (Spec.D En.Dop.D4 ⟨[.fd (.int .i64)], [bxA]⟩) := (Tryd.m39.E n).cut 3000 4 (((), (), l, ()), ((c0, c1, c2, c3, c4, c5, c6, c7, ()), (b1, ()), ()))
noncomputable def Tryd.m51 (n : Nat) (c0 : List Dop.Tok) (c1 : Int) (c2 : List Dop.Nde) (c3 : List Dop.Typ) (c4 c5 c6 c7 : Int) : Option (Spec.D En.Dop.D4 ⟨[.fd (.int .i64)], [bxA]⟩) := Tryd.m51.R n (((), ()), ((c0, c1, c2, c3, c4, c5, c6, c7, ()), ()))
noncomputable def Tryd.m65_1000066 (n : Nat) (c0 : List Dop.Tok) (c1 : Int) (c2 : List Dop.Nde) (c3 : List Dop.Typ) (c4 c5 c6 c7 : Int) : Option (Spec.D En.Dop.D4 ⟨[.fd (.int .i64)], [bxA]⟩) := Tryd.m65_1000066.R n (((), (), ()), ((c0, c1, c2, c3, c4, c5, c6, c7, ()), ()))
noncomputable def Tryd.m66 (n : Nat) (c0 : List Dop.Tok) (c1 : Int) (c2 : List Dop.Nde) (c3 : List Dop.Typ) (c4 c5 c6 c7 : Int) : Option (Spec.D En.Dop.D4 ⟨[.fd (.int .i64)], [bxA]⟩) := Tryd.m66.R n (((), ()), ((c0, c1, c2, c3, c4, c5, c6, c7, ()), ()))
noncomputable def Tryd.m66_64 (n : Nat) (c0 : List Dop.Tok) (c1 : Int) (c2 : List Dop.Nde) (c3 : List Dop.Typ) (c4 c5 c6 c7 : Int) (b1 : Dop.Nde) : Option (Spec.D En.Dop.D4 ⟨[.fd (.int .i64)], [bxA]⟩) := (Tryd.m66.E n).cut 3000 64 (((), (), ()), ((c0, c1, c2, c3, c4, c5, c6, c7, ()), (b1, ()), ()))
noncomputable def Tryd.m66_13 (n : Nat) (c0 : List Dop.Tok) (c1 : Int) (c2 : List Dop.Nde) (c3 : List Dop.Typ) (c4 c5 c6 c7 : Int) (b1 : Dop.Nde) : Option (Spec.D En.Dop.D4 ⟨[.fd (.int .i64)], [bxA]⟩) := (Tryd.m66.E n).cut 3000 13 (((), (), ()), ((c0, c1, c2, c3, c4, c5, c6, c7, ()), (b1, ()), ()))
noncomputable def Tryd.m66_53 (n : Nat) (t4 : Int) (c0 : List Dop.Tok) (c1 : Int) (c2 : List Dop.Nde) (c3 : List Dop.Typ) (c4 c5 c6 c7 : Int) (b1 : Dop.Nde) : Option (Spec.D En.Dop.D4 ⟨[.fd (.int .i64)], [bxA]⟩) := (Tryd.m66.E n).cut 3000 53 (((), (), t4, ()), ((c0, c1, c2, c3, c4, c5, c6, c7, ()), (b1, ()), ()))
theorem Tryd.m39_eq (n : Nat) (c0 : List Dop.Tok) (c1 : Int) (c2 : List Dop.Nde) (c3 : List Dop.Typ) (c4 c5 c6 c7 : Int) : m39 (n + 1) c0 c1 c2 c3 c4 c5 c6 c7 =
 (m14 c0 c1 c2 c3 c4 c5 c6 c7).bind fun y2 =>
  (m31 ((43 : Int)) (y2.1.1.at_)).bind fun y3 =>
  (m33 ([123] : List UInt8) y2.2.1.1 y2.2.1.2.1 y2.2.1.2.2.1 y2.2.1.2.2.2.1 y2.2.1.2.2.2.2.1 y2.2.1.2.2.2.2.2.1 y2.2.1.2.2.2.2.2.2.1 y2.2.1.2.2.2.2.2.2.2.1).bind fun y4 =>
   m39_4 n (@List.nil Int) y4.2.1.1 y4.2.1.2.1 y4.2.1.2.2.1 y4.2.1.2.2.2.1 y4.2.1.2.2.2.2.1 y4.2.1.2.2.2.2.2.1 y4.2.1.2.2.2.2.2.2.1 y4.2.1.2.2.2.2.2.2.2.1 y3.1.1 := by kernel_rfl
theorem Tryd.m39_4_eq (n : Nat) (l : List (Int)) (c0 : List Dop.Tok) (c1 : Int) (c2 : List Dop.Nde) (c3 : List Dop.Typ) (c4 c5 c6 c7 : Int) (b1 : Dop.Nde) : m39_4 n l c0 c1 c2 c3 c4 c5 c6 c7 b1 =
 (m35 ([125] : List UInt8) c0 c1 c2 c3 c4 c5 c6 c7).bind fun y2 =>
 if (!y2.1.1) = true then
 if (decide (y2.2.1.2.2.2.2.2.2.1 = (0 : Int))) = true then
   (m51 (n) y2.2.1.1 y2.2.1.2.1 y2.2.1.2.2.1 y2.2.1.2.2.2.1 y2.2.1.2.2.2.2.1 y2.2.1.2.2.2.2.2.1 y2.2.1.2.2.2.2.2.2.1 y2.2.1.2.2.2.2.2.2.2.1).bind fun y5 =>
 if (andC none (room (8 : Nat) (l.length + (y5.1.1 :: @List.nil Int).length))) = true then
   m39_4 n (l ++ y5.1.1 :: @List.nil Int) y5.2.1.1 y5.2.1.2.1 y5.2.1.2.2.1 y5.2.1.2.2.2.1 y5.2.1.2.2.2.2.1 y5.2.1.2.2.2.2.2.1 y5.2.1.2.2.2.2.2.2.1 y5.2.1.2.2.2.2.2.2.2.1 (b1)
 else none
 else
   (Tryd.m16.R (((), l, ()), (y2.2.1.1, y2.2.1.2.1, y2.2.1.2.2.1, y2.2.1.2.2.2.1, y2.2.1.2.2.2.2.1, y2.2.1.2.2.2.2.2.1, y2.2.1.2.2.2.2.2.2.1, y2.2.1.2.2.2.2.2.2.2.1, ()), ())).bind fun y5 =>
   (m38 (Dop.Nde.mk b1.kind y5.1.1 b1.b b1.c b1.d b1.text b1.n b1.type_ b1.at_) y5.2.1.1 y5.2.1.2.1 y5.2.1.2.2.1 y5.2.1.2.2.2.1 y5.2.1.2.2.2.2.1 y5.2.1.2.2.2.2.2.1 y5.2.1.2.2.2.2.2.2.1 y5.2.1.2.2.2.2.2.2.2.1).bind fun y6 =>
 some ((y6.1.1, ()), ((y6.2.1.1, (y6.2.1.2.1, (y6.2.1.2.2.1, (y6.2.1.2.2.2.1, (y6.2.1.2.2.2.2.1, (y6.2.1.2.2.2.2.2.1, (y6.2.1.2.2.2.2.2.2.1, (y6.2.1.2.2.2.2.2.2.2.1, ())))))))), ()))
 else
  (Tryd.m16.R (((), l, ()), (y2.2.1.1, y2.2.1.2.1, y2.2.1.2.2.1, y2.2.1.2.2.2.1, y2.2.1.2.2.2.2.1, y2.2.1.2.2.2.2.2.1, y2.2.1.2.2.2.2.2.2.1, y2.2.1.2.2.2.2.2.2.2.1, ()), ())).bind fun y4 =>
   (m38 (Dop.Nde.mk b1.kind y4.1.1 b1.b b1.c b1.d b1.text b1.n b1.type_ b1.at_) y4.2.1.1 y4.2.1.2.1 y4.2.1.2.2.1 y4.2.1.2.2.2.1 y4.2.1.2.2.2.2.1 y4.2.1.2.2.2.2.2.1 y4.2.1.2.2.2.2.2.2.1 y4.2.1.2.2.2.2.2.2.2.1).bind fun y5 =>
 some ((y5.1.1, ()), ((y5.2.1.1, (y5.2.1.2.1, (y5.2.1.2.2.1, (y5.2.1.2.2.2.1, (y5.2.1.2.2.2.2.1, (y5.2.1.2.2.2.2.2.1, (y5.2.1.2.2.2.2.2.2.1, (y5.2.1.2.2.2.2.2.2.2.1, ())))))))), ())) := Env.cut_eq' (E := Tryd.m39.E n) (f0 := 3000) (c := 4) (q := ⟨[[0, 0, 0, 0, 0, 0, 1, 1, 1, 1], [0, 1, 0, 0, 0, 0, 1, 1, 1, 1], [0, 1, 0, 0, 0, 1, 1, 1, 1], [2, 0, 0, 0, 1, 1, 1, 1], [1, 0], [0, 1, 1, 1, 1, 1]], [0, 3, 4], 2, ⟨[.al 0 0, .al 1 0, .own 0 3], [bxB, ⟨1, 36, [.st 5], false⟩]⟩⟩) (by kernel_rfl) (((), (), l, ()), ((c0, c1, c2, c3, c4, c5, c6, c7, ()), (b1, ()), ())) (by kernel_rfl) (by kernel_rfl)
theorem Tryd.m51_eq (n : Nat) (c0 : List Dop.Tok) (c1 : Int) (c2 : List Dop.Nde) (c3 : List Dop.Typ) (c4 c5 c6 c7 : Int) : m51 (n + 1) c0 c1 c2 c3 c4 c5 c6 c7 =
 (m65_1000066 (n) c0 c1 c2 c3 c4 c5 c6 c7).bind fun y2 =>
 some ((y2.1.1, ()), ((y2.2.1.1, (y2.2.1.2.1, (y2.2.1.2.2.1, (y2.2.1.2.2.2.1, (y2.2.1.2.2.2.2.1, (y2.2.1.2.2.2.2.2.1, (y2.2.1.2.2.2.2.2.2.1, (y2.2.1.2.2.2.2.2.2.2.1, ())))))))), ())) := by kernel_rfl
theorem Tryd.m66_eq (n : Nat) (c0 : List Dop.Tok) (c1 : Int) (c2 : List Dop.Nde) (c3 : List Dop.Typ) (c4 c5 c6 c7 : Int) : m66 (n + 1) c0 c1 c2 c3 c4 c5 c6 c7 =
 (m14 c0 c1 c2 c3 c4 c5 c6 c7).bind fun y2 =>
  (m31 ((44 : Int)) (y2.1.1.at_)).bind fun y3 =>
  (m32 ([123] : List UInt8) y2.2.1.1 y2.2.1.2.1 y2.2.1.2.2.1 y2.2.1.2.2.2.1 y2.2.1.2.2.2.2.1 y2.2.1.2.2.2.2.2.1 y2.2.1.2.2.2.2.2.2.1 y2.2.1.2.2.2.2.2.2.2.1).bind fun y4 =>
 if y4.1.1 = true then
   (m39 (n) y4.2.1.1 y4.2.1.2.1 y4.2.1.2.2.1 y4.2.1.2.2.2.1 y4.2.1.2.2.2.2.1 y4.2.1.2.2.2.2.2.1 y4.2.1.2.2.2.2.2.2.1 y4.2.1.2.2.2.2.2.2.2.1).bind fun y6 =>
 some ((y6.1.1, ()), ((y6.2.1.1, (y6.2.1.2.1, (y6.2.1.2.2.1, (y6.2.1.2.2.2.1, (y6.2.1.2.2.2.2.1, (y6.2.1.2.2.2.2.2.1, (y6.2.1.2.2.2.2.2.2.1, (y6.2.1.2.2.2.2.2.2.2.1, ())))))))), ()))
 else
   (m35 ([59] : List UInt8) y4.2.1.1 y4.2.1.2.1 y4.2.1.2.2.1 y4.2.1.2.2.2.1 y4.2.1.2.2.2.2.1 y4.2.1.2.2.2.2.2.1 y4.2.1.2.2.2.2.2.2.1 y4.2.1.2.2.2.2.2.2.2.1).bind fun y6 =>
 if y6.1.1 = true then
    m66_64 n y6.2.1.1 y6.2.1.2.1 y6.2.1.2.2.1 y6.2.1.2.2.2.1 y6.2.1.2.2.2.2.1 y6.2.1.2.2.2.2.2.1 y6.2.1.2.2.2.2.2.2.1 y6.2.1.2.2.2.2.2.2.2.1 y3.1.1
 else
    (m78 y6.2.1.1 y6.2.1.2.1 y6.2.1.2.2.1 y6.2.1.2.2.2.1 y6.2.1.2.2.2.2.1 y6.2.1.2.2.2.2.2.1 y6.2.1.2.2.2.2.2.2.1 y6.2.1.2.2.2.2.2.2.2.1).bind fun y8 =>
 if y8.1.1 = true then
     (m49 y8.2.1.1 y8.2.1.2.1 y8.2.1.2.2.1 y8.2.1.2.2.2.1 y8.2.1.2.2.2.2.1 y8.2.1.2.2.2.2.2.1 y8.2.1.2.2.2.2.2.2.1 y8.2.1.2.2.2.2.2.2.2.1).bind fun y10 =>
      (m34 ((1 : Int)) y10.2.1.1 y10.2.1.2.1 y10.2.1.2.2.1 y10.2.1.2.2.2.1 y10.2.1.2.2.2.2.1 y10.2.1.2.2.2.2.2.1 y10.2.1.2.2.2.2.2.2.1 y10.2.1.2.2.2.2.2.2.2.1).bind fun y11 =>
      (m37 y10.1.1 y11.2.1.1 y11.2.1.2.1 y11.2.1.2.2.1 y11.2.1.2.2.2.1 y11.2.1.2.2.2.2.1 y11.2.1.2.2.2.2.2.1 y11.2.1.2.2.2.2.2.2.1 y11.2.1.2.2.2.2.2.2.2.1).bind fun y12 =>
       (m35 ([61] : List UInt8) y12.2.1.1 y12.2.1.2.1 y12.2.1.2.2.1 y12.2.1.2.2.2.1 y12.2.1.2.2.2.2.1 y12.2.1.2.2.2.2.2.1 y12.2.1.2.2.2.2.2.2.1 y12.2.1.2.2.2.2.2.2.2.1).bind fun y13 =>
 if y13.1.1 = true then
        (m79 (FU) y13.2.1.1 y13.2.1.2.1 y13.2.1.2.2.1 y13.2.1.2.2.2.1 y13.2.1.2.2.2.2.1 y13.2.1.2.2.2.2.2.1 y13.2.1.2.2.2.2.2.2.1 y13.2.1.2.2.2.2.2.2.2.1).bind fun y15 =>
        m66_13 n y15.2.1.1 y15.2.1.2.1 y15.2.1.2.2.1 y15.2.1.2.2.2.1 y15.2.1.2.2.2.2.1 y15.2.1.2.2.2.2.2.1 y15.2.1.2.2.2.2.2.2.1 y15.2.1.2.2.2.2.2.2.2.1 (Dop.Nde.mk (45 : Int) y15.1.1 y3.1.1.b y3.1.1.c y3.1.1.d y11.1.1.text y3.1.1.n y12.1.1 y3.1.1.at_)
 else
        m66_13 n y13.2.1.1 y13.2.1.2.1 y13.2.1.2.2.1 y13.2.1.2.2.2.1 y13.2.1.2.2.2.2.1 y13.2.1.2.2.2.2.2.1 y13.2.1.2.2.2.2.2.2.1 y13.2.1.2.2.2.2.2.2.2.1 (Dop.Nde.mk (45 : Int) y3.1.1.a y3.1.1.b y3.1.1.c y3.1.1.d y11.1.1.text y3.1.1.n y12.1.1 y3.1.1.at_)
 else
     (m35 ([105, 102] : List UInt8) y8.2.1.1 y8.2.1.2.1 y8.2.1.2.2.1 y8.2.1.2.2.2.1 y8.2.1.2.2.2.2.1 y8.2.1.2.2.2.2.2.1 y8.2.1.2.2.2.2.2.2.1 y8.2.1.2.2.2.2.2.2.2.1).bind fun y10 =>
 if y10.1.1 = true then
      (m80 y10.2.1.1 y10.2.1.2.1 y10.2.1.2.2.1 y10.2.1.2.2.2.1 y10.2.1.2.2.2.2.1 y10.2.1.2.2.2.2.2.1 y10.2.1.2.2.2.2.2.2.1 y10.2.1.2.2.2.2.2.2.2.1).bind fun y12 =>
       (m51 (n) y12.2.1.1 y12.2.1.2.1 y12.2.1.2.2.1 y12.2.1.2.2.2.1 y12.2.1.2.2.2.2.1 y12.2.1.2.2.2.2.2.1 y12.2.1.2.2.2.2.2.2.1 y12.2.1.2.2.2.2.2.2.2.1).bind fun y13 =>
       (m35 ([101, 108, 115, 101] : List UInt8) y13.2.1.1 y13.2.1.2.1 y13.2.1.2.2.1 y13.2.1.2.2.2.1 y13.2.1.2.2.2.2.1 y13.2.1.2.2.2.2.2.1 y13.2.1.2.2.2.2.2.2.1 y13.2.1.2.2.2.2.2.2.2.1).bind fun y14 =>
 if y14.1.1 = true then
        (m51 (n) y14.2.1.1 y14.2.1.2.1 y14.2.1.2.2.1 y14.2.1.2.2.2.1 y14.2.1.2.2.2.2.1 y14.2.1.2.2.2.2.2.1 y14.2.1.2.2.2.2.2.2.1 y14.2.1.2.2.2.2.2.2.2.1).bind fun y16 =>
         m66_64 n y16.2.1.1 y16.2.1.2.1 y16.2.1.2.2.1 y16.2.1.2.2.2.1 y16.2.1.2.2.2.2.1 y16.2.1.2.2.2.2.2.1 y16.2.1.2.2.2.2.2.2.1 y16.2.1.2.2.2.2.2.2.2.1 (Dop.Nde.mk (31 : Int) y12.1.1 y13.1.1 y16.1.1 y3.1.1.d y3.1.1.text y3.1.1.n y3.1.1.type_ y3.1.1.at_)
 else
        m66_64 n y14.2.1.1 y14.2.1.2.1 y14.2.1.2.2.1 y14.2.1.2.2.2.1 y14.2.1.2.2.2.2.1 y14.2.1.2.2.2.2.2.1 y14.2.1.2.2.2.2.2.2.1 y14.2.1.2.2.2.2.2.2.2.1 (Dop.Nde.mk (31 : Int) y12.1.1 y13.1.1 y3.1.1.c y3.1.1.d y3.1.1.text y3.1.1.n y3.1.1.type_ y3.1.1.at_)
 else
      (m35 ([119, 104, 105, 108, 101] : List UInt8) y10.2.1.1 y10.2.1.2.1 y10.2.1.2.2.1 y10.2.1.2.2.2.1 y10.2.1.2.2.2.2.1 y10.2.1.2.2.2.2.2.1 y10.2.1.2.2.2.2.2.2.1 y10.2.1.2.2.2.2.2.2.2.1).bind fun y12 =>
 if y12.1.1 = true then
       (m80 y12.2.1.1 y12.2.1.2.1 y12.2.1.2.2.1 y12.2.1.2.2.2.1 y12.2.1.2.2.2.2.1 y12.2.1.2.2.2.2.2.1 y12.2.1.2.2.2.2.2.2.1 y12.2.1.2.2.2.2.2.2.2.1).bind fun y14 =>
        (m51 (n) y14.2.1.1 y14.2.1.2.1 y14.2.1.2.2.1 y14.2.1.2.2.2.1 y14.2.1.2.2.2.2.1 y14.2.1.2.2.2.2.2.1 y14.2.1.2.2.2.2.2.2.1 y14.2.1.2.2.2.2.2.2.2.1).bind fun y15 =>
        m66_64 n y15.2.1.1 y15.2.1.2.1 y15.2.1.2.2.1 y15.2.1.2.2.2.1 y15.2.1.2.2.2.2.1 y15.2.1.2.2.2.2.2.1 y15.2.1.2.2.2.2.2.2.1 y15.2.1.2.2.2.2.2.2.2.1 (Dop.Nde.mk (32 : Int) y14.1.1 y15.1.1 y3.1.1.c y3.1.1.d y3.1.1.text y3.1.1.n y3.1.1.type_ y3.1.1.at_)
 else
       (m35 ([100, 111] : List UInt8) y12.2.1.1 y12.2.1.2.1 y12.2.1.2.2.1 y12.2.1.2.2.2.1 y12.2.1.2.2.2.2.1 y12.2.1.2.2.2.2.2.1 y12.2.1.2.2.2.2.2.2.1 y12.2.1.2.2.2.2.2.2.2.1).bind fun y14 =>
 if y14.1.1 = true then
        (m51 (n) y14.2.1.1 y14.2.1.2.1 y14.2.1.2.2.1 y14.2.1.2.2.2.1 y14.2.1.2.2.2.2.1 y14.2.1.2.2.2.2.2.1 y14.2.1.2.2.2.2.2.2.1 y14.2.1.2.2.2.2.2.2.2.1).bind fun y16 =>
         (m33 ([119, 104, 105, 108, 101] : List UInt8) y16.2.1.1 y16.2.1.2.1 y16.2.1.2.2.1 y16.2.1.2.2.2.1 y16.2.1.2.2.2.2.1 y16.2.1.2.2.2.2.2.1 y16.2.1.2.2.2.2.2.2.1 y16.2.1.2.2.2.2.2.2.2.1).bind fun y17 =>
         (m80 y17.2.1.1 y17.2.1.2.1 y17.2.1.2.2.1 y17.2.1.2.2.2.1 y17.2.1.2.2.2.2.1 y17.2.1.2.2.2.2.2.1 y17.2.1.2.2.2.2.2.2.1 y17.2.1.2.2.2.2.2.2.2.1).bind fun y18 =>
          (m33 ([59] : List UInt8) y18.2.1.1 y18.2.1.2.1 y18.2.1.2.2.1 y18.2.1.2.2.2.1 y18.2.1.2.2.2.2.1 y18.2.1.2.2.2.2.2.1 y18.2.1.2.2.2.2.2.2.1 y18.2.1.2.2.2.2.2.2.2.1).bind fun y19 =>
          m66_64 n y19.2.1.1 y19.2.1.2.1 y19.2.1.2.2.1 y19.2.1.2.2.2.1 y19.2.1.2.2.2.2.1 y19.2.1.2.2.2.2.2.1 y19.2.1.2.2.2.2.2.2.1 y19.2.1.2.2.2.2.2.2.2.1 (Dop.Nde.mk (33 : Int) y18.1.1 y16.1.1 y3.1.1.c y3.1.1.d y3.1.1.text y3.1.1.n y3.1.1.type_ y3.1.1.at_)
 else
        (m35 ([102, 111, 114] : List UInt8) y14.2.1.1 y14.2.1.2.1 y14.2.1.2.2.1 y14.2.1.2.2.2.1 y14.2.1.2.2.2.2.1 y14.2.1.2.2.2.2.2.1 y14.2.1.2.2.2.2.2.2.1 y14.2.1.2.2.2.2.2.2.2.1).bind fun y16 =>
 if y16.1.1 = true then
         (m33 ([40] : List UInt8) y16.2.1.1 y16.2.1.2.1 y16.2.1.2.2.1 y16.2.1.2.2.2.1 y16.2.1.2.2.2.2.1 y16.2.1.2.2.2.2.2.1 y16.2.1.2.2.2.2.2.2.1 y16.2.1.2.2.2.2.2.2.2.1).bind fun y18 =>
          (m81 ([59] : List UInt8) y18.2.1.1 y18.2.1.2.1 y18.2.1.2.2.1 y18.2.1.2.2.2.1 y18.2.1.2.2.2.2.1 y18.2.1.2.2.2.2.2.1 y18.2.1.2.2.2.2.2.2.1 y18.2.1.2.2.2.2.2.2.2.1).bind fun y19 =>
          (m81 ([59] : List UInt8) y19.2.1.1 y19.2.1.2.1 y19.2.1.2.2.1 y19.2.1.2.2.2.1 y19.2.1.2.2.2.2.1 y19.2.1.2.2.2.2.2.1 y19.2.1.2.2.2.2.2.2.1 y19.2.1.2.2.2.2.2.2.2.1).bind fun y20 =>
           (m81 ([41] : List UInt8) y20.2.1.1 y20.2.1.2.1 y20.2.1.2.2.1 y20.2.1.2.2.2.1 y20.2.1.2.2.2.2.1 y20.2.1.2.2.2.2.2.1 y20.2.1.2.2.2.2.2.2.1 y20.2.1.2.2.2.2.2.2.2.1).bind fun y21 =>
           (m51 (n) y21.2.1.1 y21.2.1.2.1 y21.2.1.2.2.1 y21.2.1.2.2.2.1 y21.2.1.2.2.2.2.1 y21.2.1.2.2.2.2.2.1 y21.2.1.2.2.2.2.2.2.1 y21.2.1.2.2.2.2.2.2.2.1).bind fun y22 =>
            m66_64 n y22.2.1.1 y22.2.1.2.1 y22.2.1.2.2.1 y22.2.1.2.2.2.1 y22.2.1.2.2.2.2.1 y22.2.1.2.2.2.2.2.1 y22.2.1.2.2.2.2.2.2.1 y22.2.1.2.2.2.2.2.2.2.1 (Dop.Nde.mk (34 : Int) y19.1.1 y20.1.1 y21.1.1 y22.1.1 y3.1.1.text y3.1.1.n y3.1.1.type_ y3.1.1.at_)
 else
         (m35 ([98, 114, 101, 97, 107] : List UInt8) y16.2.1.1 y16.2.1.2.1 y16.2.1.2.2.1 y16.2.1.2.2.2.1 y16.2.1.2.2.2.2.1 y16.2.1.2.2.2.2.2.1 y16.2.1.2.2.2.2.2.2.1 y16.2.1.2.2.2.2.2.2.2.1).bind fun y18 =>
 if y18.1.1 = true then
          (m33 ([59] : List UInt8) y18.2.1.1 y18.2.1.2.1 y18.2.1.2.2.1 y18.2.1.2.2.2.1 y18.2.1.2.2.2.2.1 y18.2.1.2.2.2.2.2.1 y18.2.1.2.2.2.2.2.2.1 y18.2.1.2.2.2.2.2.2.2.1).bind fun y20 =>
           m66_64 n y20.2.1.1 y20.2.1.2.1 y20.2.1.2.2.1 y20.2.1.2.2.2.1 y20.2.1.2.2.2.2.1 y20.2.1.2.2.2.2.2.1 y20.2.1.2.2.2.2.2.2.1 y20.2.1.2.2.2.2.2.2.2.1 (Dop.Nde.mk (35 : Int) y3.1.1.a y3.1.1.b y3.1.1.c y3.1.1.d y3.1.1.text y3.1.1.n y3.1.1.type_ y3.1.1.at_)
 else
          (m35 ([99, 111, 110, 116, 105, 110, 117, 101] : List UInt8) y18.2.1.1 y18.2.1.2.1 y18.2.1.2.2.1 y18.2.1.2.2.2.1 y18.2.1.2.2.2.2.1 y18.2.1.2.2.2.2.2.1 y18.2.1.2.2.2.2.2.2.1 y18.2.1.2.2.2.2.2.2.2.1).bind fun y20 =>
 if y20.1.1 = true then
           (m33 ([59] : List UInt8) y20.2.1.1 y20.2.1.2.1 y20.2.1.2.2.1 y20.2.1.2.2.2.1 y20.2.1.2.2.2.2.1 y20.2.1.2.2.2.2.2.1 y20.2.1.2.2.2.2.2.2.1 y20.2.1.2.2.2.2.2.2.2.1).bind fun y22 =>
            m66_64 n y22.2.1.1 y22.2.1.2.1 y22.2.1.2.2.1 y22.2.1.2.2.2.1 y22.2.1.2.2.2.2.1 y22.2.1.2.2.2.2.2.1 y22.2.1.2.2.2.2.2.2.1 y22.2.1.2.2.2.2.2.2.2.1 (Dop.Nde.mk (36 : Int) y3.1.1.a y3.1.1.b y3.1.1.c y3.1.1.d y3.1.1.text y3.1.1.n y3.1.1.type_ y3.1.1.at_)
 else
           (m35 ([114, 101, 116, 117, 114, 110] : List UInt8) y20.2.1.1 y20.2.1.2.1 y20.2.1.2.2.1 y20.2.1.2.2.2.1 y20.2.1.2.2.2.2.1 y20.2.1.2.2.2.2.2.1 y20.2.1.2.2.2.2.2.2.1 y20.2.1.2.2.2.2.2.2.2.1).bind fun y22 =>
 if y22.1.1 = true then
            (m81 ([59] : List UInt8) y22.2.1.1 y22.2.1.2.1 y22.2.1.2.2.1 y22.2.1.2.2.2.1 y22.2.1.2.2.2.2.1 y22.2.1.2.2.2.2.2.1 y22.2.1.2.2.2.2.2.2.1 y22.2.1.2.2.2.2.2.2.2.1).bind fun y24 =>
             m66_64 n y24.2.1.1 y24.2.1.2.1 y24.2.1.2.2.1 y24.2.1.2.2.2.1 y24.2.1.2.2.2.2.1 y24.2.1.2.2.2.2.2.1 y24.2.1.2.2.2.2.2.2.1 y24.2.1.2.2.2.2.2.2.2.1 (Dop.Nde.mk (37 : Int) y24.1.1 y3.1.1.b y3.1.1.c y3.1.1.d y3.1.1.text y3.1.1.n y3.1.1.type_ y3.1.1.at_)
 else
            (m35 ([103, 111, 116, 111] : List UInt8) y22.2.1.1 y22.2.1.2.1 y22.2.1.2.2.1 y22.2.1.2.2.2.1 y22.2.1.2.2.2.2.1 y22.2.1.2.2.2.2.2.1 y22.2.1.2.2.2.2.2.2.1 y22.2.1.2.2.2.2.2.2.2.1).bind fun y24 =>
 if y24.1.1 = true then
             (m34 ((1 : Int)) y24.2.1.1 y24.2.1.2.1 y24.2.1.2.2.1 y24.2.1.2.2.2.1 y24.2.1.2.2.2.2.1 y24.2.1.2.2.2.2.2.1 y24.2.1.2.2.2.2.2.2.1 y24.2.1.2.2.2.2.2.2.2.1).bind fun y26 =>
              (m33 ([59] : List UInt8) y26.2.1.1 y26.2.1.2.1 y26.2.1.2.2.1 y26.2.1.2.2.2.1 y26.2.1.2.2.2.2.1 y26.2.1.2.2.2.2.2.1 y26.2.1.2.2.2.2.2.2.1 y26.2.1.2.2.2.2.2.2.2.1).bind fun y27 =>
              m66_64 n y27.2.1.1 y27.2.1.2.1 y27.2.1.2.2.1 y27.2.1.2.2.2.1 y27.2.1.2.2.2.2.1 y27.2.1.2.2.2.2.2.1 y27.2.1.2.2.2.2.2.2.1 y27.2.1.2.2.2.2.2.2.2.1 (Dop.Nde.mk (38 : Int) y3.1.1.a y3.1.1.b y3.1.1.c y3.1.1.d y26.1.1.text y3.1.1.n y3.1.1.type_ y3.1.1.at_)
 else
             (m35 ([115, 119, 105, 116, 99, 104] : List UInt8) y24.2.1.1 y24.2.1.2.1 y24.2.1.2.2.1 y24.2.1.2.2.2.1 y24.2.1.2.2.2.2.1 y24.2.1.2.2.2.2.2.1 y24.2.1.2.2.2.2.2.2.1 y24.2.1.2.2.2.2.2.2.2.1).bind fun y26 =>
 if y26.1.1 = true then
              (m80 y26.2.1.1 y26.2.1.2.1 y26.2.1.2.2.1 y26.2.1.2.2.2.1 y26.2.1.2.2.2.2.1 y26.2.1.2.2.2.2.2.1 y26.2.1.2.2.2.2.2.2.1 y26.2.1.2.2.2.2.2.2.2.1).bind fun y28 =>
               (m39 (n) y28.2.1.1 y28.2.1.2.1 y28.2.1.2.2.1 y28.2.1.2.2.2.1 y28.2.1.2.2.2.2.1 y28.2.1.2.2.2.2.2.1 y28.2.1.2.2.2.2.2.2.1 y28.2.1.2.2.2.2.2.2.2.1).bind fun y29 =>
               m66_64 n y29.2.1.1 y29.2.1.2.1 y29.2.1.2.2.1 y29.2.1.2.2.2.1 y29.2.1.2.2.2.2.1 y29.2.1.2.2.2.2.2.1 y29.2.1.2.2.2.2.2.2.1 y29.2.1.2.2.2.2.2.2.2.1 (Dop.Nde.mk (40 : Int) y28.1.1 y29.1.1 y3.1.1.c y3.1.1.d y3.1.1.text y3.1.1.n y3.1.1.type_ y3.1.1.at_)
 else
              (m35 ([99, 97, 115, 101] : List UInt8) y26.2.1.1 y26.2.1.2.1 y26.2.1.2.2.1 y26.2.1.2.2.2.1 y26.2.1.2.2.2.2.1 y26.2.1.2.2.2.2.2.1 y26.2.1.2.2.2.2.2.2.1 y26.2.1.2.2.2.2.2.2.2.1).bind fun y28 =>
 if y28.1.1 = true then
               (m35 ([45] : List UInt8) y28.2.1.1 y28.2.1.2.1 y28.2.1.2.2.1 y28.2.1.2.2.2.1 y28.2.1.2.2.2.2.1 y28.2.1.2.2.2.2.2.1 y28.2.1.2.2.2.2.2.2.1 y28.2.1.2.2.2.2.2.2.2.1).bind fun y30 =>
 if y30.1.1 = true then
                m66_53 n ((-1 : Int)) y30.2.1.1 y30.2.1.2.1 y30.2.1.2.2.1 y30.2.1.2.2.2.1 y30.2.1.2.2.2.2.1 y30.2.1.2.2.2.2.2.1 y30.2.1.2.2.2.2.2.2.1 y30.2.1.2.2.2.2.2.2.2.1 (Dop.Nde.mk (41 : Int) y3.1.1.a y3.1.1.b y3.1.1.c y3.1.1.d y3.1.1.text y3.1.1.n y3.1.1.type_ y3.1.1.at_)
 else
                m66_53 n ((1 : Int)) y30.2.1.1 y30.2.1.2.1 y30.2.1.2.2.1 y30.2.1.2.2.2.1 y30.2.1.2.2.2.2.1 y30.2.1.2.2.2.2.2.1 y30.2.1.2.2.2.2.2.2.1 y30.2.1.2.2.2.2.2.2.2.1 (Dop.Nde.mk (41 : Int) y3.1.1.a y3.1.1.b y3.1.1.c y3.1.1.d y3.1.1.text y3.1.1.n y3.1.1.type_ y3.1.1.at_)
 else
               (m35 ([100, 101, 102, 97, 117, 108, 116] : List UInt8) y28.2.1.1 y28.2.1.2.1 y28.2.1.2.2.1 y28.2.1.2.2.2.1 y28.2.1.2.2.2.2.1 y28.2.1.2.2.2.2.2.1 y28.2.1.2.2.2.2.2.2.1 y28.2.1.2.2.2.2.2.2.2.1).bind fun y30 =>
 if y30.1.1 = true then
                (m33 ([58] : List UInt8) y30.2.1.1 y30.2.1.2.1 y30.2.1.2.2.1 y30.2.1.2.2.2.1 y30.2.1.2.2.2.2.1 y30.2.1.2.2.2.2.2.1 y30.2.1.2.2.2.2.2.2.1 y30.2.1.2.2.2.2.2.2.2.1).bind fun y32 =>
                 (m51 (n) y32.2.1.1 y32.2.1.2.1 y32.2.1.2.2.1 y32.2.1.2.2.2.1 y32.2.1.2.2.2.2.1 y32.2.1.2.2.2.2.2.1 y32.2.1.2.2.2.2.2.2.1 y32.2.1.2.2.2.2.2.2.2.1).bind fun y33 =>
                 m66_64 n y33.2.1.1 y33.2.1.2.1 y33.2.1.2.2.1 y33.2.1.2.2.2.1 y33.2.1.2.2.2.2.1 y33.2.1.2.2.2.2.2.1 y33.2.1.2.2.2.2.2.2.1 y33.2.1.2.2.2.2.2.2.2.1 (Dop.Nde.mk (42 : Int) y33.1.1 y3.1.1.b y3.1.1.c y3.1.1.d y3.1.1.text y3.1.1.n y3.1.1.type_ y3.1.1.at_)
 else
                (m82 y30.2.1.1 y30.2.1.2.1 y30.2.1.2.2.1 y30.2.1.2.2.2.1 y30.2.1.2.2.2.2.1 y30.2.1.2.2.2.2.2.1 y30.2.1.2.2.2.2.2.2.1 y30.2.1.2.2.2.2.2.2.2.1).bind fun y32 =>
 if y32.1.1 = true then
                 (m34 ((1 : Int)) y32.2.1.1 y32.2.1.2.1 y32.2.1.2.2.1 y32.2.1.2.2.2.1 y32.2.1.2.2.2.2.1 y32.2.1.2.2.2.2.2.1 y32.2.1.2.2.2.2.2.2.1 y32.2.1.2.2.2.2.2.2.2.1).bind fun y34 =>
                  (m33 ([58] : List UInt8) y34.2.1.1 y34.2.1.2.1 y34.2.1.2.2.1 y34.2.1.2.2.2.1 y34.2.1.2.2.2.2.1 y34.2.1.2.2.2.2.2.1 y34.2.1.2.2.2.2.2.2.1 y34.2.1.2.2.2.2.2.2.2.1).bind fun y35 =>
                  (m51 (n) y35.2.1.1 y35.2.1.2.1 y35.2.1.2.2.1 y35.2.1.2.2.2.1 y35.2.1.2.2.2.2.1 y35.2.1.2.2.2.2.2.1 y35.2.1.2.2.2.2.2.2.1 y35.2.1.2.2.2.2.2.2.2.1).bind fun y36 =>
                   m66_64 n y36.2.1.1 y36.2.1.2.1 y36.2.1.2.2.1 y36.2.1.2.2.2.1 y36.2.1.2.2.2.2.1 y36.2.1.2.2.2.2.2.1 y36.2.1.2.2.2.2.2.2.1 y36.2.1.2.2.2.2.2.2.2.1 (Dop.Nde.mk (39 : Int) y36.1.1 y3.1.1.b y3.1.1.c y3.1.1.d y34.1.1.text y3.1.1.n y3.1.1.type_ y3.1.1.at_)
 else
                 (m79 (FU) y32.2.1.1 y32.2.1.2.1 y32.2.1.2.2.1 y32.2.1.2.2.2.1 y32.2.1.2.2.2.2.1 y32.2.1.2.2.2.2.2.1 y32.2.1.2.2.2.2.2.2.1 y32.2.1.2.2.2.2.2.2.2.1).bind fun y34 =>
                  (m33 ([59] : List UInt8) y34.2.1.1 y34.2.1.2.1 y34.2.1.2.2.1 y34.2.1.2.2.2.1 y34.2.1.2.2.2.2.1 y34.2.1.2.2.2.2.2.1 y34.2.1.2.2.2.2.2.2.1 y34.2.1.2.2.2.2.2.2.2.1).bind fun y35 =>
                  m66_64 n y35.2.1.1 y35.2.1.2.1 y35.2.1.2.2.1 y35.2.1.2.2.2.1 y35.2.1.2.2.2.2.1 y35.2.1.2.2.2.2.2.1 y35.2.1.2.2.2.2.2.2.1 y35.2.1.2.2.2.2.2.2.2.1 (Dop.Nde.mk (30 : Int) y34.1.1 y3.1.1.b y3.1.1.c y3.1.1.d y3.1.1.text y3.1.1.n y3.1.1.type_ y3.1.1.at_) := by kernel_rfl
theorem Tryd.m66_64_eq (n : Nat) (c0 : List Dop.Tok) (c1 : Int) (c2 : List Dop.Nde) (c3 : List Dop.Typ) (c4 c5 c6 c7 : Int) (b1 : Dop.Nde) : m66_64 n c0 c1 c2 c3 c4 c5 c6 c7 b1 =
 (m38 (b1) c0 c1 c2 c3 c4 c5 c6 c7).bind fun y2 =>
 some ((y2.1.1, ()), ((y2.2.1.1, (y2.2.1.2.1, (y2.2.1.2.2.1, (y2.2.1.2.2.2.1, (y2.2.1.2.2.2.2.1, (y2.2.1.2.2.2.2.2.1, (y2.2.1.2.2.2.2.2.2.1, (y2.2.1.2.2.2.2.2.2.2.1, ())))))))), ())) := Env.cut_eq' (E := Tryd.m66.E n) (f0 := 3000) (c := 64) (q := ⟨[[0, 0, 1, 1, 1], [0, 1, 1, 1, 1]], [0, 3], 2, ⟨[.al 0 0, .al 1 0], [bxB, ⟨1, 36, [.st 5], false⟩]⟩⟩) (by kernel_rfl) (((), (), ()), ((c0, c1, c2, c3, c4, c5, c6, c7, ()), (b1, ()), ())) (by kernel_rfl) (by kernel_rfl)
theorem Tryd.m66_13_eq (n : Nat) (c0 : List Dop.Tok) (c1 : Int) (c2 : List Dop.Nde) (c3 : List Dop.Typ) (c4 c5 c6 c7 : Int) (b1 : Dop.Nde) : m66_13 n c0 c1 c2 c3 c4 c5 c6 c7 b1 =
 (m33 ([59] : List UInt8) c0 c1 c2 c3 c4 c5 c6 c7).bind fun y2 =>
  m66_64 n y2.2.1.1 y2.2.1.2.1 y2.2.1.2.2.1 y2.2.1.2.2.2.1 y2.2.1.2.2.2.2.1 y2.2.1.2.2.2.2.2.1 y2.2.1.2.2.2.2.2.2.1 y2.2.1.2.2.2.2.2.2.2.1 (b1) := Env.cut_eq' (E := Tryd.m66.E n) (f0 := 3000) (c := 13) (q := ⟨[[0, 1, 1, 1, 1, 0, 1, 1, 1, 1, 1, 0, 0, 1, 1], [1, 0], [0, 1, 1, 1]], [0, 3], 2, ⟨[.al 0 0, .al 1 0], [bxB, ⟨1, 36, [.st 5], false⟩]⟩⟩) (by kernel_rfl) (((), (), ()), ((c0, c1, c2, c3, c4, c5, c6, c7, ()), (b1, ()), ())) (by kernel_rfl) (by kernel_rfl)
theorem Tryd.m66_53_eq (n : Nat) (t4 : Int) (c0 : List Dop.Tok) (c1 : Int) (c2 : List Dop.Nde) (c3 : List Dop.Typ) (c4 c5 c6 c7 : Int) (b1 : Dop.Nde) : m66_53 n t4 c0 c1 c2 c3 c4 c5 c6 c7 b1 =
 (m34 ((3 : Int)) c0 c1 c2 c3 c4 c5 c6 c7).bind fun y2 =>
 if (inR (t4 * y2.1.1.n)) = true then
  (m33 ([58] : List UInt8) y2.2.1.1 y2.2.1.2.1 y2.2.1.2.2.1 y2.2.1.2.2.2.1 y2.2.1.2.2.2.2.1 y2.2.1.2.2.2.2.2.1 y2.2.1.2.2.2.2.2.2.1 y2.2.1.2.2.2.2.2.2.2.1).bind fun y3 =>
  (m51 (n) y3.2.1.1 y3.2.1.2.1 y3.2.1.2.2.1 y3.2.1.2.2.2.1 y3.2.1.2.2.2.2.1 y3.2.1.2.2.2.2.2.1 y3.2.1.2.2.2.2.2.2.1 y3.2.1.2.2.2.2.2.2.2.1).bind fun y4 =>
   m66_64 n y4.2.1.1 y4.2.1.2.1 y4.2.1.2.2.1 y4.2.1.2.2.2.1 y4.2.1.2.2.2.2.1 y4.2.1.2.2.2.2.2.1 y4.2.1.2.2.2.2.2.2.1 y4.2.1.2.2.2.2.2.2.2.1 (Dop.Nde.mk b1.kind y4.1.1 b1.b b1.c b1.d b1.text (t4 * y2.1.1.n) b1.type_ b1.at_)
 else none := Env.cut_eq' (E := Tryd.m66.E n) (f0 := 3000) (c := 53) (q := ⟨[[0, 0, 1, 1, 1, 0, 1, 1, 1, 1, 1, 1, 1, 1, 1, 1, 1, 1, 1, 1, 1, 1, 1, 1, 1, 1, 1, 1, 1, 1, 1, 0, 0, 1, 1], [0, 1, 1, 1, 1, 0, 1, 1, 1, 1, 1, 1, 1, 1, 1, 1, 1, 1, 1, 1, 1, 1, 1, 1, 1, 1, 1, 1, 1, 1, 1, 0, 0, 1, 1], [1, 0], [0, 1, 1, 1]], [0, 3, 4], 2, ⟨[.al 0 0, .al 1 0, .fd (.int .i64)], [bxB, ⟨1, 36, [.st 5], false⟩]⟩⟩) (by kernel_rfl) (((), (), t4, ()), ((c0, c1, c2, c3, c4, c5, c6, c7, ()), (b1, ()), ())) (by kernel_rfl) (by kernel_rfl)
def Tryd.m15.p : Pln := ⟨[(7, ⟨[[0, 0, 0, 0, 0, 0, 1, 1, 1, 1, 0, 1, 0, 1, 1], [0, 1, 0, 0, 0, 0, 1, 1, 1, 1, 0, 1, 0, 1, 1], [0, 1, 0, 0, 0, 1, 1, 1, 1, 0, 1, 0, 1, 1], [2, 0, 0, 0, 1, 1, 1, 1, 0, 1, 0, 1, 1], [1, 0], [0, 1, 1, 1, 1, 1, 0, 1, 0, 1, 1], [0, 1, 1, 1]], [0, 3, 4], 2, ⟨[.al 0 0, .al 1 0, .own 0 3], [bxB, ⟨1, 36, [.st 5], false⟩]⟩⟩), (21, ⟨[[0, 0, 0, 0, 0, 0, 1, 0, 1, 0, 1, 1, 1, 1, 1], [0, 1, 0, 0, 0, 0, 1, 0, 1, 0, 1, 1, 1, 1, 1], [0, 1, 0, 0, 0, 1, 0, 1, 0, 1, 1, 1, 1, 1], [2, 0, 0, 0, 1, 0, 1, 0, 1, 1, 1, 1, 1], [1, 2], [0, 1, 1, 0, 1, 0, 1, 1, 1, 1, 1], [0, 1, 1, 1, 1, 1, 1]], [0, 3, 7], 2, ⟨[.al 0 0, .al 1 0, .own 0 3], [bxB, ⟨1, 36, [.st 5], false⟩]⟩⟩)], 1, ⟨[.al 0 0], [bxA]⟩, ⟨[.fd (.int .i64)], [bxB]⟩, false, [(2, ⟨[(0, true), (1, false), (2, true), (3, true), (4, true), (5, true), (6, false), (7, true), (8, true), (9, true), (10, true), (11, false), (12, false), (13, true), (14, true), (15, true), (16, true), (17, true), (18, true), (19, false), (20, true), (21, true), (22, true), (23, false), (24, true), (25, false), (26, false), (27, false), (28, true), (29, true)], [1000000], [0, 1, 3, 7, 15, 31, 63, 127, 7, 263, 775, 1799, 3847, 8191, 16383, 32767, 65535, 131071, 262143, 524287, 65535, 1114111, 3211263, 7405567, 15794175, 33554431, 67108863, 134217727, 268435455, 536870911], false⟩), (18, ⟨[(0, true), (1, false), (2, true), (3, false), (4, true), (5, false), (6, true), (7, false), (8, true)], [9, 1000003], [0, 1, 0, 4, 0, 16, 51, 115, 255, 511], false⟩)], []⟩
noncomputable def Tryd.m15.E : Env En.Dop.D4 := envOf Tryd.prog 15 Tryd.tb [Tryd.m14.c, Tryd.m31.c, Tryd.m32.c, Tryd.m33.c, Tryd.m34.c, Tryd.m35.c, Tryd.m36.c, Tryd.m37.c, Tryd.m38.c, Tryd.m16.c, Tryd.m39.cf] Tryd.m15.p
theorem Tryd.m15.ok : plnOk En.Dop.D4 Tryd.prog 15 Tryd.m15.p = true := by kernel_rfl
noncomputable def Tryd.m15.c : Ctr En.Dop.D4 := ⟨15, Tryd.m15.p.bn, Tryd.m15.p.sp, Tryd.m15.p.rs, Tryd.m15.p.flat, .opt (Tryd.m15.E.run 3000 Tryd.m15.p.sp)⟩
theorem Tryd.m15.holds : Tryd.m15.c.Holds Tryd.prog := fun_ctr 3000 Tryd.tbOk (hct_cons Tryd.m14.holds (hct_cons Tryd.m31.holds (hct_cons Tryd.m32.holds (hct_cons Tryd.m33.holds (hct_cons Tryd.m34.holds (hct_cons Tryd.m35.holds (hct_cons Tryd.m36.holds (hct_cons Tryd.m37.holds (hct_cons Tryd.m38.holds (hct_cons Tryd.m16.holds (hct_cons Tryd.m39.holdsf hct_nil))))))))))) Tryd.m15.ok
noncomputable def Tryd.m15 (c0 : List Dop.Tok) (c1 : Int) (c2 : List Dop.Nde) (c3 : List Dop.Typ) (c4 c5 c6 c7 : Int) : Option (Spec.D En.Dop.D4 ⟨[.fd (.int .i64)], [bxB]⟩) := Tryd.m15.E.run 3000 Tryd.m15.p.sp (((), ()), ((c0, c1, c2, c3, c4, c5, c6, c7, ()), ()))
noncomputable def Tryd.m15_7 (t4 : List (Int)) (c0 : List Dop.Tok) (c1 : Int) (c2 : List Dop.Nde) (c3 : List Dop.Typ) (c4 c5 c6 c7 : Int) (b1 : Dop.Nde) : Option (Spec.D En.Dop.D4 ⟨[.fd (.int .i64)], [bxB]⟩) := Tryd.m15.E.cut 3000 7 (((), (), t4, ()), ((c0, c1, c2, c3, c4, c5, c6, c7, ()), (b1, ()), ()))
noncomputable def Tryd.m15_21 (t7 : List (Int)) (c0 : List Dop.Tok) (c1 : Int) (c2 : List Dop.Nde) (c3 : List Dop.Typ) (c4 c5 c6 c7 : Int) (b1 : Dop.Nde) : Option (Spec.D En.Dop.D4 ⟨[.fd (.int .i64)], [bxB]⟩) := Tryd.m15.E.cut 3000 21 (((), (), t7, ()), ((c0, c1, c2, c3, c4, c5, c6, c7, ()), (b1, ()), ()))
theorem Tryd.m15_eq (c0 : List Dop.Tok) (c1 : Int) (c2 : List Dop.Nde) (c3 : List Dop.Typ) (c4 c5 c6 c7 : Int) : m15 c0 c1 c2 c3 c4 c5 c6 c7 =
 (m14 c0 c1 c2 c3 c4 c5 c6 c7).bind fun y2 =>
  (m31 ((53 : Int)) (y2.1.1.at_)).bind fun y3 =>
  (m32 ([115, 116, 114, 117, 99, 116] : List UInt8) y2.2.1.1 y2.2.1.2.1 y2.2.1.2.2.1 y2.2.1.2.2.2.1 y2.2.1.2.2.2.2.1 y2.2.1.2.2.2.2.2.1 y2.2.1.2.2.2.2.2.2.1 y2.2.1.2.2.2.2.2.2.2.1).bind fun y4 =>
 if y4.1.1 = true then
 if (inR (y4.2.1.2.1 + (2 : Int))) = true then
 if (decide (y4.2.1.2.1 + (2 : Int) < I y4.2.1.1.length)) = true then
 if (inR (y4.2.1.2.1 + (2 : Int))) = true then
 if (decide ((0 : Int) ≤ y4.2.1.2.1 + (2 : Int) ∧ y4.2.1.2.1 + (2 : Int) < I y4.2.1.1.length)) = true then
 if (decide ((@List.getD Dop.Tok y4.2.1.1 (y4.2.1.2.1 + (2 : Int)).toNat Dop.d4).text = (123 : UInt8) :: @List.nil UInt8)) = true then
    (m33 ([115, 116, 114, 117, 99, 116] : List UInt8) y4.2.1.1 y4.2.1.2.1 y4.2.1.2.2.1 y4.2.1.2.2.2.1 y4.2.1.2.2.2.2.1 y4.2.1.2.2.2.2.2.1 y4.2.1.2.2.2.2.2.2.1 y4.2.1.2.2.2.2.2.2.2.1).bind fun y8 =>
     (m34 ((1 : Int)) y8.2.1.1 y8.2.1.2.1 y8.2.1.2.2.1 y8.2.1.2.2.2.1 y8.2.1.2.2.2.2.1 y8.2.1.2.2.2.2.2.1 y8.2.1.2.2.2.2.2.2.1 y8.2.1.2.2.2.2.2.2.2.1).bind fun y9 =>
     (m33 ([123] : List UInt8) y9.2.1.1 y9.2.1.2.1 y9.2.1.2.2.1 y9.2.1.2.2.2.1 y9.2.1.2.2.2.2.1 y9.2.1.2.2.2.2.2.1 y9.2.1.2.2.2.2.2.2.1 y9.2.1.2.2.2.2.2.2.2.1).bind fun y10 =>
      m15_7 (@List.nil Int) y10.2.1.1 y10.2.1.2.1 y10.2.1.2.2.1 y10.2.1.2.2.2.1 y10.2.1.2.2.2.2.1 y10.2.1.2.2.2.2.2.1 y10.2.1.2.2.2.2.2.2.1 y10.2.1.2.2.2.2.2.2.2.1 (Dop.Nde.mk y3.1.1.kind y3.1.1.a y3.1.1.b y3.1.1.c y3.1.1.d y9.1.1.text y3.1.1.n y3.1.1.type_ y3.1.1.at_)
 else
    (m36 y4.2.1.1 y4.2.1.2.1 y4.2.1.2.2.1 y4.2.1.2.2.2.1 y4.2.1.2.2.2.2.1 y4.2.1.2.2.2.2.2.1 y4.2.1.2.2.2.2.2.2.1 y4.2.1.2.2.2.2.2.2.2.1).bind fun y8 =>
     (m35 ([40] : List UInt8) y8.2.1.1 y8.2.1.2.1 y8.2.1.2.2.1 y8.2.1.2.2.2.1 y8.2.1.2.2.2.2.1 y8.2.1.2.2.2.2.2.1 y8.2.1.2.2.2.2.2.2.1 y8.2.1.2.2.2.2.2.2.2.1).bind fun y9 =>
 if y9.1.1 = true then
      m15_21 (@List.nil Int) y9.2.1.1 y9.2.1.2.1 y9.2.1.2.2.1 y9.2.1.2.2.2.1 y9.2.1.2.2.2.2.1 y9.2.1.2.2.2.2.2.1 y9.2.1.2.2.2.2.2.2.1 y9.2.1.2.2.2.2.2.2.2.1 (Dop.Nde.mk (50 : Int) y3.1.1.a y3.1.1.b y3.1.1.c y3.1.1.d y8.1.1.text y3.1.1.n y8.1.1.type_ y3.1.1.at_)
 else
      (m37 (y8.1.1.type_) y9.2.1.1 y9.2.1.2.1 y9.2.1.2.2.1 y9.2.1.2.2.2.1 y9.2.1.2.2.2.2.1 y9.2.1.2.2.2.2.2.1 y9.2.1.2.2.2.2.2.2.1 y9.2.1.2.2.2.2.2.2.2.1).bind fun y11 =>
      (m35 ([61] : List UInt8) y11.2.1.1 y11.2.1.2.1 y11.2.1.2.2.1 y11.2.1.2.2.2.1 y11.2.1.2.2.2.2.1 y11.2.1.2.2.2.2.2.1 y11.2.1.2.2.2.2.2.2.1 y11.2.1.2.2.2.2.2.2.2.1).bind fun y12 =>
 if y12.1.1 = true then
       (m35 ([45] : List UInt8) y12.2.1.1 y12.2.1.2.1 y12.2.1.2.2.1 y12.2.1.2.2.2.1 y12.2.1.2.2.2.2.1 y12.2.1.2.2.2.2.2.1 y12.2.1.2.2.2.2.2.2.1 y12.2.1.2.2.2.2.2.2.2.1).bind fun y14 =>
 if y14.1.1 = true then
        (m34 ((3 : Int)) y14.2.1.1 y14.2.1.2.1 y14.2.1.2.2.1 y14.2.1.2.2.2.1 y14.2.1.2.2.2.2.1 y14.2.1.2.2.2.2.2.1 y14.2.1.2.2.2.2.2.2.1 y14.2.1.2.2.2.2.2.2.2.1).bind fun y16 =>
 if (inR ((-1 : Int) * y16.1.1.n)) = true then
         (m33 ([59] : List UInt8) y16.2.1.1 y16.2.1.2.1 y16.2.1.2.2.1 y16.2.1.2.2.2.1 y16.2.1.2.2.2.2.1 y16.2.1.2.2.2.2.2.1 y16.2.1.2.2.2.2.2.2.1 y16.2.1.2.2.2.2.2.2.2.1).bind fun y17 =>
         (m38 (Dop.Nde.mk (52 : Int) y3.1.1.a y3.1.1.b y3.1.1.c y3.1.1.d y8.1.1.text ((-1 : Int) * y16.1.1.n) y11.1.1 y3.1.1.at_) y17.2.1.1 y17.2.1.2.1 y17.2.1.2.2.1 y17.2.1.2.2.2.1 y17.2.1.2.2.2.2.1 y17.2.1.2.2.2.2.2.1 y17.2.1.2.2.2.2.2.2.1 y17.2.1.2.2.2.2.2.2.2.1).bind fun y18 =>
 some ((y18.1.1, ()), ((y18.2.1.1, (y18.2.1.2.1, (y18.2.1.2.2.1, (y18.2.1.2.2.2.1, (y18.2.1.2.2.2.2.1, (y18.2.1.2.2.2.2.2.1, (y18.2.1.2.2.2.2.2.2.1, (y18.2.1.2.2.2.2.2.2.2.1, ())))))))), ()))
 else none
 else
        (m34 ((3 : Int)) y14.2.1.1 y14.2.1.2.1 y14.2.1.2.2.1 y14.2.1.2.2.2.1 y14.2.1.2.2.2.2.1 y14.2.1.2.2.2.2.2.1 y14.2.1.2.2.2.2.2.2.1 y14.2.1.2.2.2.2.2.2.2.1).bind fun y16 =>
 if (inR ((1 : Int) * y16.1.1.n)) = true then
         (m33 ([59] : List UInt8) y16.2.1.1 y16.2.1.2.1 y16.2.1.2.2.1 y16.2.1.2.2.2.1 y16.2.1.2.2.2.2.1 y16.2.1.2.2.2.2.2.1 y16.2.1.2.2.2.2.2.2.1 y16.2.1.2.2.2.2.2.2.2.1).bind fun y17 =>
         (m38 (Dop.Nde.mk (52 : Int) y3.1.1.a y3.1.1.b y3.1.1.c y3.1.1.d y8.1.1.text ((1 : Int) * y16.1.1.n) y11.1.1 y3.1.1.at_) y17.2.1.1 y17.2.1.2.1 y17.2.1.2.2.1 y17.2.1.2.2.2.1 y17.2.1.2.2.2.2.1 y17.2.1.2.2.2.2.2.1 y17.2.1.2.2.2.2.2.2.1 y17.2.1.2.2.2.2.2.2.2.1).bind fun y18 =>
 some ((y18.1.1, ()), ((y18.2.1.1, (y18.2.1.2.1, (y18.2.1.2.2.1, (y18.2.1.2.2.2.1, (y18.2.1.2.2.2.2.1, (y18.2.1.2.2.2.2.2.1, (y18.2.1.2.2.2.2.2.2.1, (y18.2.1.2.2.2.2.2.2.2.1, ())))))))), ()))
 else none
 else
       (m33 ([59] : List UInt8) y12.2.1.1 y12.2.1.2.1 y12.2.1.2.2.1 y12.2.1.2.2.2.1 y12.2.1.2.2.2.2.1 y12.2.1.2.2.2.2.2.1 y12.2.1.2.2.2.2.2.2.1 y12.2.1.2.2.2.2.2.2.2.1).bind fun y14 =>
        (m38 (Dop.Nde.mk (52 : Int) y3.1.1.a y3.1.1.b y3.1.1.c y3.1.1.d y8.1.1.text y3.1.1.n y11.1.1 y3.1.1.at_) y14.2.1.1 y14.2.1.2.1 y14.2.1.2.2.1 y14.2.1.2.2.2.1 y14.2.1.2.2.2.2.1 y14.2.1.2.2.2.2.2.1 y14.2.1.2.2.2.2.2.2.1 y14.2.1.2.2.2.2.2.2.2.1).bind fun y15 =>
 some ((y15.1.1, ()), ((y15.2.1.1, (y15.2.1.2.1, (y15.2.1.2.2.1, (y15.2.1.2.2.2.1, (y15.2.1.2.2.2.2.1, (y15.2.1.2.2.2.2.2.1, (y15.2.1.2.2.2.2.2.2.1, (y15.2.1.2.2.2.2.2.2.2.1, ())))))))), ()))
 else none
 else none
 else
    (m36 y4.2.1.1 y4.2.1.2.1 y4.2.1.2.2.1 y4.2.1.2.2.2.1 y4.2.1.2.2.2.2.1 y4.2.1.2.2.2.2.2.1 y4.2.1.2.2.2.2.2.2.1 y4.2.1.2.2.2.2.2.2.2.1).bind fun y7 =>
    (m35 ([40] : List UInt8) y7.2.1.1 y7.2.1.2.1 y7.2.1.2.2.1 y7.2.1.2.2.2.1 y7.2.1.2.2.2.2.1 y7.2.1.2.2.2.2.2.1 y7.2.1.2.2.2.2.2.2.1 y7.2.1.2.2.2.2.2.2.2.1).bind fun y8 =>
 if y8.1.1 = true then
     m15_21 (@List.nil Int) y8.2.1.1 y8.2.1.2.1 y8.2.1.2.2.1 y8.2.1.2.2.2.1 y8.2.1.2.2.2.2.1 y8.2.1.2.2.2.2.2.1 y8.2.1.2.2.2.2.2.2.1 y8.2.1.2.2.2.2.2.2.2.1 (Dop.Nde.mk (50 : Int) y3.1.1.a y3.1.1.b y3.1.1.c y3.1.1.d y7.1.1.text y3.1.1.n y7.1.1.type_ y3.1.1.at_)
 else
     (m37 (y7.1.1.type_) y8.2.1.1 y8.2.1.2.1 y8.2.1.2.2.1 y8.2.1.2.2.2.1 y8.2.1.2.2.2.2.1 y8.2.1.2.2.2.2.2.1 y8.2.1.2.2.2.2.2.2.1 y8.2.1.2.2.2.2.2.2.2.1).bind fun y10 =>
      (m35 ([61] : List UInt8) y10.2.1.1 y10.2.1.2.1 y10.2.1.2.2.1 y10.2.1.2.2.2.1 y10.2.1.2.2.2.2.1 y10.2.1.2.2.2.2.2.1 y10.2.1.2.2.2.2.2.2.1 y10.2.1.2.2.2.2.2.2.2.1).bind fun y11 =>
 if y11.1.1 = true then
       (m35 ([45] : List UInt8) y11.2.1.1 y11.2.1.2.1 y11.2.1.2.2.1 y11.2.1.2.2.2.1 y11.2.1.2.2.2.2.1 y11.2.1.2.2.2.2.2.1 y11.2.1.2.2.2.2.2.2.1 y11.2.1.2.2.2.2.2.2.2.1).bind fun y13 =>
 if y13.1.1 = true then
        (m34 ((3 : Int)) y13.2.1.1 y13.2.1.2.1 y13.2.1.2.2.1 y13.2.1.2.2.2.1 y13.2.1.2.2.2.2.1 y13.2.1.2.2.2.2.2.1 y13.2.1.2.2.2.2.2.2.1 y13.2.1.2.2.2.2.2.2.2.1).bind fun y15 =>
 if (inR ((-1 : Int) * y15.1.1.n)) = true then
        (m33 ([59] : List UInt8) y15.2.1.1 y15.2.1.2.1 y15.2.1.2.2.1 y15.2.1.2.2.2.1 y15.2.1.2.2.2.2.1 y15.2.1.2.2.2.2.2.1 y15.2.1.2.2.2.2.2.2.1 y15.2.1.2.2.2.2.2.2.2.1).bind fun y16 =>
         (m38 (Dop.Nde.mk (52 : Int) y3.1.1.a y3.1.1.b y3.1.1.c y3.1.1.d y7.1.1.text ((-1 : Int) * y15.1.1.n) y10.1.1 y3.1.1.at_) y16.2.1.1 y16.2.1.2.1 y16.2.1.2.2.1 y16.2.1.2.2.2.1 y16.2.1.2.2.2.2.1 y16.2.1.2.2.2.2.2.1 y16.2.1.2.2.2.2.2.2.1 y16.2.1.2.2.2.2.2.2.2.1).bind fun y17 =>
 some ((y17.1.1, ()), ((y17.2.1.1, (y17.2.1.2.1, (y17.2.1.2.2.1, (y17.2.1.2.2.2.1, (y17.2.1.2.2.2.2.1, (y17.2.1.2.2.2.2.2.1, (y17.2.1.2.2.2.2.2.2.1, (y17.2.1.2.2.2.2.2.2.2.1, ())))))))), ()))
 else none
 else
        (m34 ((3 : Int)) y13.2.1.1 y13.2.1.2.1 y13.2.1.2.2.1 y13.2.1.2.2.2.1 y13.2.1.2.2.2.2.1 y13.2.1.2.2.2.2.2.1 y13.2.1.2.2.2.2.2.2.1 y13.2.1.2.2.2.2.2.2.2.1).bind fun y15 =>
 if (inR ((1 : Int) * y15.1.1.n)) = true then
        (m33 ([59] : List UInt8) y15.2.1.1 y15.2.1.2.1 y15.2.1.2.2.1 y15.2.1.2.2.2.1 y15.2.1.2.2.2.2.1 y15.2.1.2.2.2.2.2.1 y15.2.1.2.2.2.2.2.2.1 y15.2.1.2.2.2.2.2.2.2.1).bind fun y16 =>
         (m38 (Dop.Nde.mk (52 : Int) y3.1.1.a y3.1.1.b y3.1.1.c y3.1.1.d y7.1.1.text ((1 : Int) * y15.1.1.n) y10.1.1 y3.1.1.at_) y16.2.1.1 y16.2.1.2.1 y16.2.1.2.2.1 y16.2.1.2.2.2.1 y16.2.1.2.2.2.2.1 y16.2.1.2.2.2.2.2.1 y16.2.1.2.2.2.2.2.2.1 y16.2.1.2.2.2.2.2.2.2.1).bind fun y17 =>
 some ((y17.1.1, ()), ((y17.2.1.1, (y17.2.1.2.1, (y17.2.1.2.2.1, (y17.2.1.2.2.2.1, (y17.2.1.2.2.2.2.1, (y17.2.1.2.2.2.2.2.1, (y17.2.1.2.2.2.2.2.2.1, (y17.2.1.2.2.2.2.2.2.2.1, ())))))))), ()))
 else none
 else
       (m33 ([59] : List UInt8) y11.2.1.1 y11.2.1.2.1 y11.2.1.2.2.1 y11.2.1.2.2.2.1 y11.2.1.2.2.2.2.1 y11.2.1.2.2.2.2.2.1 y11.2.1.2.2.2.2.2.2.1 y11.2.1.2.2.2.2.2.2.2.1).bind fun y13 =>
       (m38 (Dop.Nde.mk (52 : Int) y3.1.1.a y3.1.1.b y3.1.1.c y3.1.1.d y7.1.1.text y3.1.1.n y10.1.1 y3.1.1.at_) y13.2.1.1 y13.2.1.2.1 y13.2.1.2.2.1 y13.2.1.2.2.2.1 y13.2.1.2.2.2.2.1 y13.2.1.2.2.2.2.2.1 y13.2.1.2.2.2.2.2.2.1 y13.2.1.2.2.2.2.2.2.2.1).bind fun y14 =>
 some ((y14.1.1, ()), ((y14.2.1.1, (y14.2.1.2.1, (y14.2.1.2.2.1, (y14.2.1.2.2.2.1, (y14.2.1.2.2.2.2.1, (y14.2.1.2.2.2.2.2.1, (y14.2.1.2.2.2.2.2.2.1, (y14.2.1.2.2.2.2.2.2.2.1, ())))))))), ()))
 else none
 else
   (m36 y4.2.1.1 y4.2.1.2.1 y4.2.1.2.2.1 y4.2.1.2.2.2.1 y4.2.1.2.2.2.2.1 y4.2.1.2.2.2.2.2.1 y4.2.1.2.2.2.2.2.2.1 y4.2.1.2.2.2.2.2.2.2.1).bind fun y6 =>
    (m35 ([40] : List UInt8) y6.2.1.1 y6.2.1.2.1 y6.2.1.2.2.1 y6.2.1.2.2.2.1 y6.2.1.2.2.2.2.1 y6.2.1.2.2.2.2.2.1 y6.2.1.2.2.2.2.2.2.1 y6.2.1.2.2.2.2.2.2.2.1).bind fun y7 =>
 if y7.1.1 = true then
     m15_21 (@List.nil Int) y7.2.1.1 y7.2.1.2.1 y7.2.1.2.2.1 y7.2.1.2.2.2.1 y7.2.1.2.2.2.2.1 y7.2.1.2.2.2.2.2.1 y7.2.1.2.2.2.2.2.2.1 y7.2.1.2.2.2.2.2.2.2.1 (Dop.Nde.mk (50 : Int) y3.1.1.a y3.1.1.b y3.1.1.c y3.1.1.d y6.1.1.text y3.1.1.n y6.1.1.type_ y3.1.1.at_)
 else
     (m37 (y6.1.1.type_) y7.2.1.1 y7.2.1.2.1 y7.2.1.2.2.1 y7.2.1.2.2.2.1 y7.2.1.2.2.2.2.1 y7.2.1.2.2.2.2.2.1 y7.2.1.2.2.2.2.2.2.1 y7.2.1.2.2.2.2.2.2.2.1).bind fun y9 =>
     (m35 ([61] : List UInt8) y9.2.1.1 y9.2.1.2.1 y9.2.1.2.2.1 y9.2.1.2.2.2.1 y9.2.1.2.2.2.2.1 y9.2.1.2.2.2.2.2.1 y9.2.1.2.2.2.2.2.2.1 y9.2.1.2.2.2.2.2.2.2.1).bind fun y10 =>
 if y10.1.1 = true then
      (m35 ([45] : List UInt8) y10.2.1.1 y10.2.1.2.1 y10.2.1.2.2.1 y10.2.1.2.2.2.1 y10.2.1.2.2.2.2.1 y10.2.1.2.2.2.2.2.1 y10.2.1.2.2.2.2.2.2.1 y10.2.1.2.2.2.2.2.2.2.1).bind fun y12 =>
 if y12.1.1 = true then
       (m34 ((3 : Int)) y12.2.1.1 y12.2.1.2.1 y12.2.1.2.2.1 y12.2.1.2.2.2.1 y12.2.1.2.2.2.2.1 y12.2.1.2.2.2.2.2.1 y12.2.1.2.2.2.2.2.2.1 y12.2.1.2.2.2.2.2.2.2.1).bind fun y14 =>
 if (inR ((-1 : Int) * y14.1.1.n)) = true then
        (m33 ([59] : List UInt8) y14.2.1.1 y14.2.1.2.1 y14.2.1.2.2.1 y14.2.1.2.2.2.1 y14.2.1.2.2.2.2.1 y14.2.1.2.2.2.2.2.1 y14.2.1.2.2.2.2.2.2.1 y14.2.1.2.2.2.2.2.2.2.1).bind fun y15 =>
        (m38 (Dop.Nde.mk (52 : Int) y3.1.1.a y3.1.1.b y3.1.1.c y3.1.1.d y6.1.1.text ((-1 : Int) * y14.1.1.n) y9.1.1 y3.1.1.at_) y15.2.1.1 y15.2.1.2.1 y15.2.1.2.2.1 y15.2.1.2.2.2.1 y15.2.1.2.2.2.2.1 y15.2.1.2.2.2.2.2.1 y15.2.1.2.2.2.2.2.2.1 y15.2.1.2.2.2.2.2.2.2.1).bind fun y16 =>
 some ((y16.1.1, ()), ((y16.2.1.1, (y16.2.1.2.1, (y16.2.1.2.2.1, (y16.2.1.2.2.2.1, (y16.2.1.2.2.2.2.1, (y16.2.1.2.2.2.2.2.1, (y16.2.1.2.2.2.2.2.2.1, (y16.2.1.2.2.2.2.2.2.2.1, ())))))))), ()))
 else none
 else
       (m34 ((3 : Int)) y12.2.1.1 y12.2.1.2.1 y12.2.1.2.2.1 y12.2.1.2.2.2.1 y12.2.1.2.2.2.2.1 y12.2.1.2.2.2.2.2.1 y12.2.1.2.2.2.2.2.2.1 y12.2.1.2.2.2.2.2.2.2.1).bind fun y14 =>
 if (inR ((1 : Int) * y14.1.1.n)) = true then
        (m33 ([59] : List UInt8) y14.2.1.1 y14.2.1.2.1 y14.2.1.2.2.1 y14.2.1.2.2.2.1 y14.2.1.2.2.2.2.1 y14.2.1.2.2.2.2.2.1 y14.2.1.2.2.2.2.2.2.1 y14.2.1.2.2.2.2.2.2.2.1).bind fun y15 =>
        (m38 (Dop.Nde.mk (52 : Int) y3.1.1.a y3.1.1.b y3.1.1.c y3.1.1.d y6.1.1.text ((1 : Int) * y14.1.1.n) y9.1.1 y3.1.1.at_) y15.2.1.1 y15.2.1.2.1 y15.2.1.2.2.1 y15.2.1.2.2.2.1 y15.2.1.2.2.2.2.1 y15.2.1.2.2.2.2.2.1 y15.2.1.2.2.2.2.2.2.1 y15.2.1.2.2.2.2.2.2.2.1).bind fun y16 =>
 some ((y16.1.1, ()), ((y16.2.1.1, (y16.2.1.2.1, (y16.2.1.2.2.1, (y16.2.1.2.2.2.1, (y16.2.1.2.2.2.2.1, (y16.2.1.2.2.2.2.2.1, (y16.2.1.2.2.2.2.2.2.1, (y16.2.1.2.2.2.2.2.2.2.1, ())))))))), ()))
 else none
 else
      (m33 ([59] : List UInt8) y10.2.1.1 y10.2.1.2.1 y10.2.1.2.2.1 y10.2.1.2.2.2.1 y10.2.1.2.2.2.2.1 y10.2.1.2.2.2.2.2.1 y10.2.1.2.2.2.2.2.2.1 y10.2.1.2.2.2.2.2.2.2.1).bind fun y12 =>
       (m38 (Dop.Nde.mk (52 : Int) y3.1.1.a y3.1.1.b y3.1.1.c y3.1.1.d y6.1.1.text y3.1.1.n y9.1.1 y3.1.1.at_) y12.2.1.1 y12.2.1.2.1 y12.2.1.2.2.1 y12.2.1.2.2.2.1 y12.2.1.2.2.2.2.1 y12.2.1.2.2.2.2.2.1 y12.2.1.2.2.2.2.2.2.1 y12.2.1.2.2.2.2.2.2.2.1).bind fun y13 =>
 some ((y13.1.1, ()), ((y13.2.1.1, (y13.2.1.2.1, (y13.2.1.2.2.1, (y13.2.1.2.2.2.1, (y13.2.1.2.2.2.2.1, (y13.2.1.2.2.2.2.2.1, (y13.2.1.2.2.2.2.2.2.1, (y13.2.1.2.2.2.2.2.2.2.1, ())))))))), ())) := by kernel_rfl
theorem Tryd.m15_7_eq (t4 : List (Int)) (c0 : List Dop.Tok) (c1 : Int) (c2 : List Dop.Nde) (c3 : List Dop.Typ) (c4 c5 c6 c7 : Int) (b1 : Dop.Nde) : m15_7 t4 c0 c1 c2 c3 c4 c5 c6 c7 b1 =
 if (decide (I t4.length = (0 : Int))) = true then
  (m36 c0 c1 c2 c3 c4 c5 c6 c7).bind fun y3 =>
  (m37 (y3.1.1.type_) y3.2.1.1 y3.2.1.2.1 y3.2.1.2.2.1 y3.2.1.2.2.2.1 y3.2.1.2.2.2.2.1 y3.2.1.2.2.2.2.2.1 y3.2.1.2.2.2.2.2.2.1 y3.2.1.2.2.2.2.2.2.2.1).bind fun y4 =>
   (m33 ([59] : List UInt8) y4.2.1.1 y4.2.1.2.1 y4.2.1.2.2.1 y4.2.1.2.2.2.1 y4.2.1.2.2.2.2.1 y4.2.1.2.2.2.2.2.1 y4.2.1.2.2.2.2.2.2.1 y4.2.1.2.2.2.2.2.2.2.1).bind fun y5 =>
   (m38 (Dop.Nde.mk y3.1.1.kind y3.1.1.a y3.1.1.b y3.1.1.c y3.1.1.d y3.1.1.text y3.1.1.n y4.1.1 y3.1.1.at_) y5.2.1.1 y5.2.1.2.1 y5.2.1.2.2.1 y5.2.1.2.2.2.1 y5.2.1.2.2.2.2.1 y5.2.1.2.2.2.2.2.1 y5.2.1.2.2.2.2.2.2.1 y5.2.1.2.2.2.2.2.2.2.1).bind fun y6 =>
 if (andC none (room (8 : Nat) (t4.length + (y6.1.1 :: @List.nil Int).length))) = true then
 if (!decide (y6.2.1.2.2.2.2.2.2.1 = (0 : Int))) = true then
 some (((-1 : Int), ()), ((y6.2.1.1, (y6.2.1.2.1, (y6.2.1.2.2.1, (y6.2.1.2.2.2.1, (y6.2.1.2.2.2.2.1, (y6.2.1.2.2.2.2.2.1, (y6.2.1.2.2.2.2.2.2.1, (y6.2.1.2.2.2.2.2.2.2.1, ())))))))), ()))
 else
    m15_7 (t4 ++ y6.1.1 :: @List.nil Int) y6.2.1.1 y6.2.1.2.1 y6.2.1.2.2.1 y6.2.1.2.2.2.1 y6.2.1.2.2.2.2.1 y6.2.1.2.2.2.2.2.1 y6.2.1.2.2.2.2.2.2.1 y6.2.1.2.2.2.2.2.2.2.1 (b1)
 else none
 else
  (m35 ([125] : List UInt8) c0 c1 c2 c3 c4 c5 c6 c7).bind fun y3 =>
 if (!y3.1.1) = true then
 if (decide (y3.2.1.2.2.2.2.2.2.1 = (0 : Int))) = true then
   (m36 y3.2.1.1 y3.2.1.2.1 y3.2.1.2.2.1 y3.2.1.2.2.2.1 y3.2.1.2.2.2.2.1 y3.2.1.2.2.2.2.2.1 y3.2.1.2.2.2.2.2.2.1 y3.2.1.2.2.2.2.2.2.2.1).bind fun y6 =>
    (m37 (y6.1.1.type_) y6.2.1.1 y6.2.1.2.1 y6.2.1.2.2.1 y6.2.1.2.2.2.1 y6.2.1.2.2.2.2.1 y6.2.1.2.2.2.2.2.1 y6.2.1.2.2.2.2.2.2.1 y6.2.1.2.2.2.2.2.2.2.1).bind fun y7 =>
    (m33 ([59] : List UInt8) y7.2.1.1 y7.2.1.2.1 y7.2.1.2.2.1 y7.2.1.2.2.2.1 y7.2.1.2.2.2.2.1 y7.2.1.2.2.2.2.2.1 y7.2.1.2.2.2.2.2.2.1 y7.2.1.2.2.2.2.2.2.2.1).bind fun y8 =>
     (m38 (Dop.Nde.mk y6.1.1.kind y6.1.1.a y6.1.1.b y6.1.1.c y6.1.1.d y6.1.1.text y6.1.1.n y7.1.1 y6.1.1.at_) y8.2.1.1 y8.2.1.2.1 y8.2.1.2.2.1 y8.2.1.2.2.2.1 y8.2.1.2.2.2.2.1 y8.2.1.2.2.2.2.2.1 y8.2.1.2.2.2.2.2.2.1 y8.2.1.2.2.2.2.2.2.2.1).bind fun y9 =>
 if (andC none (room (8 : Nat) (t4.length + (y9.1.1 :: @List.nil Int).length))) = true then
 if (!decide (y9.2.1.2.2.2.2.2.2.1 = (0 : Int))) = true then
 some (((-1 : Int), ()), ((y9.2.1.1, (y9.2.1.2.1, (y9.2.1.2.2.1, (y9.2.1.2.2.2.1, (y9.2.1.2.2.2.2.1, (y9.2.1.2.2.2.2.2.1, (y9.2.1.2.2.2.2.2.2.1, (y9.2.1.2.2.2.2.2.2.2.1, ())))))))), ()))
 else
      m15_7 (t4 ++ y9.1.1 :: @List.nil Int) y9.2.1.1 y9.2.1.2.1 y9.2.1.2.2.1 y9.2.1.2.2.2.1 y9.2.1.2.2.2.2.1 y9.2.1.2.2.2.2.2.1 y9.2.1.2.2.2.2.2.2.1 y9.2.1.2.2.2.2.2.2.2.1 (b1)
 else none
 else
   (m33 ([59] : List UInt8) y3.2.1.1 y3.2.1.2.1 y3.2.1.2.2.1 y3.2.1.2.2.2.1 y3.2.1.2.2.2.2.1 y3.2.1.2.2.2.2.2.1 y3.2.1.2.2.2.2.2.2.1 y3.2.1.2.2.2.2.2.2.2.1).bind fun y6 =>
    (Tryd.m16.R (((), t4, ()), (y6.2.1.1, y6.2.1.2.1, y6.2.1.2.2.1, y6.2.1.2.2.2.1, y6.2.1.2.2.2.2.1, y6.2.1.2.2.2.2.2.1, y6.2.1.2.2.2.2.2.2.1, y6.2.1.2.2.2.2.2.2.2.1, ()), ())).bind fun y7 =>
    (m38 (Dop.Nde.mk b1.kind y7.1.1 b1.b b1.c b1.d b1.text b1.n b1.type_ b1.at_) y7.2.1.1 y7.2.1.2.1 y7.2.1.2.2.1 y7.2.1.2.2.2.1 y7.2.1.2.2.2.2.1 y7.2.1.2.2.2.2.2.1 y7.2.1.2.2.2.2.2.2.1 y7.2.1.2.2.2.2.2.2.2.1).bind fun y8 =>
 some ((y8.1.1, ()), ((y8.2.1.1, (y8.2.1.2.1, (y8.2.1.2.2.1, (y8.2.1.2.2.2.1, (y8.2.1.2.2.2.2.1, (y8.2.1.2.2.2.2.2.1, (y8.2.1.2.2.2.2.2.2.1, (y8.2.1.2.2.2.2.2.2.2.1, ())))))))), ()))
 else
   (m33 ([59] : List UInt8) y3.2.1.1 y3.2.1.2.1 y3.2.1.2.2.1 y3.2.1.2.2.2.1 y3.2.1.2.2.2.2.1 y3.2.1.2.2.2.2.2.1 y3.2.1.2.2.2.2.2.2.1 y3.2.1.2.2.2.2.2.2.2.1).bind fun y5 =>
   (Tryd.m16.R (((), t4, ()), (y5.2.1.1, y5.2.1.2.1, y5.2.1.2.2.1, y5.2.1.2.2.2.1, y5.2.1.2.2.2.2.1, y5.2.1.2.2.2.2.2.1, y5.2.1.2.2.2.2.2.2.1, y5.2.1.2.2.2.2.2.2.2.1, ()), ())).bind fun y6 =>
    (m38 (Dop.Nde.mk b1.kind y6.1.1 b1.b b1.c b1.d b1.text b1.n b1.type_ b1.at_) y6.2.1.1 y6.2.1.2.1 y6.2.1.2.2.1 y6.2.1.2.2.2.1 y6.2.1.2.2.2.2.1 y6.2.1.2.2.2.2.2.1 y6.2.1.2.2.2.2.2.2.1 y6.2.1.2.2.2.2.2.2.2.1).bind fun y7 =>
 some ((y7.1.1, ()), ((y7.2.1.1, (y7.2.1.2.1, (y7.2.1.2.2.1, (y7.2.1.2.2.2.1, (y7.2.1.2.2.2.2.1, (y7.2.1.2.2.2.2.2.1, (y7.2.1.2.2.2.2.2.2.1, (y7.2.1.2.2.2.2.2.2.2.1, ())))))))), ())) := Env.cut_eq' (E := Tryd.m15.E) (f0 := 3000) (c := 7) (q := ⟨[[0, 0, 0, 0, 0, 0, 1, 1, 1, 1, 0, 1, 0, 1, 1], [0, 1, 0, 0, 0, 0, 1, 1, 1, 1, 0, 1, 0, 1, 1], [0, 1, 0, 0, 0, 1, 1, 1, 1, 0, 1, 0, 1, 1], [2, 0, 0, 0, 1, 1, 1, 1, 0, 1, 0, 1, 1], [1, 0], [0, 1, 1, 1, 1, 1, 0, 1, 0, 1, 1], [0, 1, 1, 1]], [0, 3, 4], 2, ⟨[.al 0 0, .al 1 0, .own 0 3], [bxB, ⟨1, 36, [.st 5], false⟩]⟩⟩) (by kernel_rfl) (((), (), t4, ()), ((c0, c1, c2, c3, c4, c5, c6, c7, ()), (b1, ()), ())) (by kernel_rfl) (by kernel_rfl)
theorem Tryd.m15_21_eq (t7 : List (Int)) (c0 : List Dop.Tok) (c1 : Int) (c2 : List Dop.Nde) (c3 : List Dop.Typ) (c4 c5 c6 c7 : Int) (b1 : Dop.Nde) : m15_21 t7 c0 c1 c2 c3 c4 c5 c6 c7 b1 =
 (m35 ([41] : List UInt8) c0 c1 c2 c3 c4 c5 c6 c7).bind fun y2 =>
 if (!y2.1.1) = true then
 if (decide (y2.2.1.2.2.2.2.2.2.1 = (0 : Int))) = true then
 if (decide ((0 : Int) < I t7.length)) = true then
   (m33 ([44] : List UInt8) y2.2.1.1 y2.2.1.2.1 y2.2.1.2.2.1 y2.2.1.2.2.2.1 y2.2.1.2.2.2.2.1 y2.2.1.2.2.2.2.2.1 y2.2.1.2.2.2.2.2.2.1 y2.2.1.2.2.2.2.2.2.2.1).bind fun y6 =>
    (m36 y6.2.1.1 y6.2.1.2.1 y6.2.1.2.2.1 y6.2.1.2.2.2.1 y6.2.1.2.2.2.2.1 y6.2.1.2.2.2.2.2.1 y6.2.1.2.2.2.2.2.2.1 y6.2.1.2.2.2.2.2.2.2.1).bind fun y7 =>
    (m38 y7.1.1 y7.2.1.1 y7.2.1.2.1 y7.2.1.2.2.1 y7.2.1.2.2.2.1 y7.2.1.2.2.2.2.1 y7.2.1.2.2.2.2.2.1 y7.2.1.2.2.2.2.2.2.1 y7.2.1.2.2.2.2.2.2.2.1).bind fun y8 =>
 if (andC none (room (8 : Nat) (t7.length + (y8.1.1 :: @List.nil Int).length))) = true then
     m15_21 (t7 ++ y8.1.1 :: @List.nil Int) y8.2.1.1 y8.2.1.2.1 y8.2.1.2.2.1 y8.2.1.2.2.2.1 y8.2.1.2.2.2.2.1 y8.2.1.2.2.2.2.2.1 y8.2.1.2.2.2.2.2.2.1 y8.2.1.2.2.2.2.2.2.2.1 (b1)
 else none
 else
   (m36 y2.2.1.1 y2.2.1.2.1 y2.2.1.2.2.1 y2.2.1.2.2.2.1 y2.2.1.2.2.2.2.1 y2.2.1.2.2.2.2.2.1 y2.2.1.2.2.2.2.2.2.1 y2.2.1.2.2.2.2.2.2.2.1).bind fun y6 =>
    (m38 y6.1.1 y6.2.1.1 y6.2.1.2.1 y6.2.1.2.2.1 y6.2.1.2.2.2.1 y6.2.1.2.2.2.2.1 y6.2.1.2.2.2.2.2.1 y6.2.1.2.2.2.2.2.2.1 y6.2.1.2.2.2.2.2.2.2.1).bind fun y7 =>
 if (andC none (room (8 : Nat) (t7.length + (y7.1.1 :: @List.nil Int).length))) = true then
    m15_21 (t7 ++ y7.1.1 :: @List.nil Int) y7.2.1.1 y7.2.1.2.1 y7.2.1.2.2.1 y7.2.1.2.2.2.1 y7.2.1.2.2.2.2.1 y7.2.1.2.2.2.2.2.1 y7.2.1.2.2.2.2.2.2.1 y7.2.1.2.2.2.2.2.2.2.1 (b1)
 else none
 else
   (Tryd.m16.R (((), t7, ()), (y2.2.1.1, y2.2.1.2.1, y2.2.1.2.2.1, y2.2.1.2.2.2.1, y2.2.1.2.2.2.2.1, y2.2.1.2.2.2.2.2.1, y2.2.1.2.2.2.2.2.2.1, y2.2.1.2.2.2.2.2.2.2.1, ()), ())).bind fun y5 =>
   (m39 (FU) y5.2.1.1 y5.2.1.2.1 y5.2.1.2.2.1 y5.2.1.2.2.2.1 y5.2.1.2.2.2.2.1 y5.2.1.2.2.2.2.2.1 y5.2.1.2.2.2.2.2.2.1 y5.2.1.2.2.2.2.2.2.2.1).bind fun y6 =>
    (m38 (Dop.Nde.mk b1.kind y5.1.1 y6.1.1 b1.c b1.d b1.text b1.n b1.type_ b1.at_) y6.2.1.1 y6.2.1.2.1 y6.2.1.2.2.1 y6.2.1.2.2.2.1 y6.2.1.2.2.2.2.1 y6.2.1.2.2.2.2.2.1 y6.2.1.2.2.2.2.2.2.1 y6.2.1.2.2.2.2.2.2.2.1).bind fun y7 =>
 some ((y7.1.1, ()), ((y7.2.1.1, (y7.2.1.2.1, (y7.2.1.2.2.1, (y7.2.1.2.2.2.1, (y7.2.1.2.2.2.2.1, (y7.2.1.2.2.2.2.2.1, (y7.2.1.2.2.2.2.2.2.1, (y7.2.1.2.2.2.2.2.2.2.1, ())))))))), ()))
 else
  (Tryd.m16.R (((), t7, ()), (y2.2.1.1, y2.2.1.2.1, y2.2.1.2.2.1, y2.2.1.2.2.2.1, y2.2.1.2.2.2.2.1, y2.2.1.2.2.2.2.2.1, y2.2.1.2.2.2.2.2.2.1, y2.2.1.2.2.2.2.2.2.2.1, ()), ())).bind fun y4 =>
   (m39 (FU) y4.2.1.1 y4.2.1.2.1 y4.2.1.2.2.1 y4.2.1.2.2.2.1 y4.2.1.2.2.2.2.1 y4.2.1.2.2.2.2.2.1 y4.2.1.2.2.2.2.2.2.1 y4.2.1.2.2.2.2.2.2.2.1).bind fun y5 =>
   (m38 (Dop.Nde.mk b1.kind y4.1.1 y5.1.1 b1.c b1.d b1.text b1.n b1.type_ b1.at_) y5.2.1.1 y5.2.1.2.1 y5.2.1.2.2.1 y5.2.1.2.2.2.1 y5.2.1.2.2.2.2.1 y5.2.1.2.2.2.2.2.1 y5.2.1.2.2.2.2.2.2.1 y5.2.1.2.2.2.2.2.2.2.1).bind fun y6 =>
 some ((y6.1.1, ()), ((y6.2.1.1, (y6.2.1.2.1, (y6.2.1.2.2.1, (y6.2.1.2.2.2.1, (y6.2.1.2.2.2.2.1, (y6.2.1.2.2.2.2.2.1, (y6.2.1.2.2.2.2.2.2.1, (y6.2.1.2.2.2.2.2.2.2.1, ())))))))), ())) := Env.cut_eq' (E := Tryd.m15.E) (f0 := 3000) (c := 21) (q := ⟨[[0, 0, 0, 0, 0, 0, 1, 0, 1, 0, 1, 1, 1, 1, 1], [0, 1, 0, 0, 0, 0, 1, 0, 1, 0, 1, 1, 1, 1, 1], [0, 1, 0, 0, 0, 1, 0, 1, 0, 1, 1, 1, 1, 1], [2, 0, 0, 0, 1, 0, 1, 0, 1, 1, 1, 1, 1], [1, 2], [0, 1, 1, 0, 1, 0, 1, 1, 1, 1, 1], [0, 1, 1, 1, 1, 1, 1]], [0, 3, 7], 2, ⟨[.al 0 0, .al 1 0, .own 0 3], [bxB, ⟨1, 36, [.st 5], false⟩]⟩⟩) (by kernel_rfl) (((), (), t7, ()), ((c0, c1, c2, c3, c4, c5, c6, c7, ()), (b1, ()), ())) (by kernel_rfl) (by kernel_rfl)
def Tryd.m7.p : Pln := ⟨[(3, ⟨[[0, 0, 0, 0, 0, 1, 0, 1, 1], [0, 1, 0, 0, 0, 1, 0, 1, 1], [0, 1, 0, 0, 1, 0, 1, 1], [2, 0, 0, 1, 0, 1, 1], [1, 0], [0, 1, 1, 1]], [2, 5, 6], 2, ⟨[.al 0 0, .al 1 0, .fd (.int .i64)], [⟨0, 30, [.own 5 36, .own 6 39, .fd (.int .i64)], false⟩, ⟨1, 52, [.fd (.sl 4), .fd (.int .i64), .own 5 36, .own 6 39, .fd (.int .i64), .fd (.int .i64), .fd (.int .i64), .fd (.int .i64)], false⟩]⟩⟩), (7, ⟨[[0, 0, 0, 0, 0, 0, 1, 1, 1, 1], [0, 1, 0, 0, 0, 0, 1, 1, 1, 1], [0, 1, 0, 0, 0, 1, 1, 1, 1], [2, 0, 0, 0, 1, 1, 1, 1], [1, 2], [0, 1, 1, 1, 1, 1]], [2, 5, 7], 2, ⟨[.al 0 0, .al 1 0, .own 0 3], [⟨0, 30, [.own 5 36, .own 6 39, .fd (.int .i64)], false⟩, ⟨1, 52, [.fd (.sl 4), .fd (.int .i64), .own 5 36, .own 6 39, .fd (.int .i64), .fd (.int .i64), .fd (.int .i64), .fd (.int .i64)], false⟩]⟩⟩)], 0, ⟨[.fd (.sl 4)], []⟩, ⟨[.st 7, .fd (.int .i64), .fd (.int .i64)], []⟩, false, [(11, ⟨[(0, true), (1, true), (2, true), (3, true), (4, false), (5, true), (6, true), (7, true), (8, false), (9, false), (10, true), (11, true)], [1000002], [0, 0, 2, 6, 14, 0, 32, 96, 224, 1, 543, 2047], false⟩)], []⟩
noncomputable def Tryd.m7.E : Env En.Dop.D4 := envOf Tryd.prog 7 Tryd.tb [Tryd.m14.c, Tryd.m15.c, Tryd.m16.c] Tryd.m7.p
theorem Tryd.m7.ok : plnOk En.Dop.D4 Tryd.prog 7 Tryd.m7.p = true := by kernel_rfl
noncomputable def Tryd.m7.c : Ctr En.Dop.D4 := ⟨7, Tryd.m7.p.bn, Tryd.m7.p.sp, Tryd.m7.p.rs, Tryd.m7.p.flat, .opt (Tryd.m7.E.run 3000 Tryd.m7.p.sp)⟩
theorem Tryd.m7.holds : Tryd.m7.c.Holds Tryd.prog := fun_ctr 3000 Tryd.tbOk (hct_cons Tryd.m14.holds (hct_cons Tryd.m15.holds (hct_cons Tryd.m16.holds hct_nil))) Tryd.m7.ok
noncomputable def Tryd.m7 (o : List (Dop.Tok)) : Option (Spec.D En.Dop.D4 ⟨[.st 7, .fd (.int .i64), .fd (.int .i64)], []⟩) := Tryd.m7.E.run 3000 Tryd.m7.p.sp ((o, ()), ())
noncomputable def Tryd.m7_3 (t6 : Int) (c0 : List (Dop.Nde)) (c1 : List (Dop.Typ)) (c2 : Int) (e0 : List Dop.Tok) (e1 : Int) (e2 : List Dop.Nde) (e3 : List Dop.Typ) (e4 e5 e6 e7 : Int) : Option (Spec.D En.Dop.D4 ⟨[.st 7, .fd (.int .i64), .fd (.int .i64)], []⟩) := Tryd.m7.E.cut 3000 3 (((), (), t6, ()), ((c0, c1, c2, ()), (e0, e1, e2, e3, e4, e5, e6, e7, ()), ()))
noncomputable def Tryd.m7_7 (t7 : List (Int)) (c0 : List (Dop.Nde)) (c1 : List (Dop.Typ)) (c2 : Int) (e0 : List Dop.Tok) (e1 : Int) (e2 : List Dop.Nde) (e3 : List Dop.Typ) (e4 e5 e6 e7 : Int) : Option (Spec.D En.Dop.D4 ⟨[.st 7, .fd (.int .i64), .fd (.int .i64)], []⟩) := Tryd.m7.E.cut 3000 7 (((), (), t7, ()), ((c0, c1, c2, ()), (e0, e1, e2, e3, e4, e5, e6, e7, ()), ()))
theorem Tryd.m7_eq (o : List (Dop.Tok)) : m7 o =
 m7_3 ((0 : Int)) (@List.nil Dop.Nde) (@List.nil Dop.Typ) ((0 : Int)) (o) ((0 : Int)) (@List.nil Dop.Nde) (@List.nil Dop.Typ) ((0 : Int)) ((0 : Int)) ((0 : Int)) ((0 : Int)) := by kernel_rfl
theorem Tryd.m7_3_eq (t6 : Int) (c0 : List (Dop.Nde)) (c1 : List (Dop.Typ)) (c2 : Int) (e0 : List Dop.Tok) (e1 : Int) (e2 : List Dop.Nde) (e3 : List Dop.Typ) (e4 e5 e6 e7 : Int) : m7_3 t6 c0 c1 c2 e0 e1 e2 e3 e4 e5 e6 e7 =
 if (decide (t6 ≤ (3 : Int))) = true then
 if (andC none (room (40 : Nat) (e3.length + (Dop.Typ.mk t6 (0 : Int) (0 : Int) (@List.nil UInt8) :: @List.nil Dop.Typ).length))) = true then
 if (inR (t6 + (1 : Int))) = true then
  m7_3 (t6 + (1 : Int)) c0 c1 c2 e0 e1 e2 (e3 ++ Dop.Typ.mk t6 (0 : Int) (0 : Int) (@List.nil UInt8) :: @List.nil Dop.Typ) e4 e5 e6 e7
 else none
 else none
 else
  m7_7 (@List.nil Int) c0 c1 c2 e0 e1 e2 e3 e4 e5 e6 e7 := Env.cut_eq' (E := Tryd.m7.E) (f0 := 3000) (c := 3) (q := ⟨[[0, 0, 0, 0, 0, 1, 0, 1, 1], [0, 1, 0, 0, 0, 1, 0, 1, 1], [0, 1, 0, 0, 1, 0, 1, 1], [2, 0, 0, 1, 0, 1, 1], [1, 0], [0, 1, 1, 1]], [2, 5, 6], 2, ⟨[.al 0 0, .al 1 0, .fd (.int .i64)], [⟨0, 30, [.own 5 36, .own 6 39, .fd (.int .i64)], false⟩, ⟨1, 52, [.fd (.sl 4), .fd (.int .i64), .own 5 36, .own 6 39, .fd (.int .i64), .fd (.int .i64), .fd (.int .i64), .fd (.int .i64)], false⟩]⟩⟩) (by kernel_rfl) (((), (), t6, ()), ((c0, c1, c2, ()), (e0, e1, e2, e3, e4, e5, e6, e7, ()), ())) (by kernel_rfl) (by kernel_rfl)
theorem Tryd.m7_7_eq (t7 : List (Int)) (c0 : List (Dop.Nde)) (c1 : List (Dop.Typ)) (c2 : Int) (e0 : List Dop.Tok) (e1 : Int) (e2 : List Dop.Nde) (e3 : List Dop.Typ) (e4 e5 e6 e7 : Int) : m7_7 t7 c0 c1 c2 e0 e1 e2 e3 e4 e5 e6 e7 =
 if (decide (e6 = (0 : Int))) = true then
  (m14 e0 e1 e2 e3 e4 e5 e6 e7).bind fun y3 =>
 if (!decide (y3.1.1.kind = (0 : Int))) = true then
   (m15 y3.2.1.1 y3.2.1.2.1 y3.2.1.2.2.1 y3.2.1.2.2.2.1 y3.2.1.2.2.2.2.1 y3.2.1.2.2.2.2.2.1 y3.2.1.2.2.2.2.2.2.1 y3.2.1.2.2.2.2.2.2.2.1).bind fun y5 =>
 if (andC none (room (8 : Nat) (t7.length + (y5.1.1 :: @List.nil Int).length))) = true then
   m7_7 (t7 ++ y5.1.1 :: @List.nil Int) c0 c1 c2 y5.2.1.1 y5.2.1.2.1 y5.2.1.2.2.1 y5.2.1.2.2.2.1 y5.2.1.2.2.2.2.1 y5.2.1.2.2.2.2.2.1 y5.2.1.2.2.2.2.2.2.1 y5.2.1.2.2.2.2.2.2.2.1
 else none
 else
   (Tryd.m16.R (((), t7, ()), (y3.2.1.1, y3.2.1.2.1, y3.2.1.2.2.1, y3.2.1.2.2.2.1, y3.2.1.2.2.2.2.1, y3.2.1.2.2.2.2.2.1, y3.2.1.2.2.2.2.2.2.1, y3.2.1.2.2.2.2.2.2.2.1, ()), ())).bind fun y5 =>
 if (!decide (y5.2.1.2.2.2.2.2.2.1 = (0 : Int))) = true then
 some ((Dop.Tre.mk (@List.nil Dop.Nde) (@List.nil Dop.Typ) (0 : Int), (y5.2.1.2.2.2.2.2.2.2.1, (y5.2.1.2.2.2.2.2.2.1, ()))), ())
 else
 some ((Dop.Tre.mk y5.2.1.2.2.1 y5.2.1.2.2.2.1 y5.1.1, ((0 : Int), ((0 : Int), ()))), ())
 else
  (Tryd.m16.R (((), t7, ()), (e0, e1, e2, e3, e4, e5, e6, e7, ()), ())).bind fun y3 =>
 if (!decide (y3.2.1.2.2.2.2.2.2.1 = (0 : Int))) = true then
 some ((Dop.Tre.mk (@List.nil Dop.Nde) (@List.nil Dop.Typ) (0 : Int), (y3.2.1.2.2.2.2.2.2.2.1, (y3.2.1.2.2.2.2.2.2.1, ()))), ())
 else
 some ((Dop.Tre.mk y3.2.1.2.2.1 y3.2.1.2.2.2.1 y3.1.1, ((0 : Int), ((0 : Int), ()))), ()) := Env.cut_eq' (E := Tryd.m7.E) (f0 := 3000) (c := 7) (q := ⟨[[0, 0, 0, 0, 0, 0, 1, 1, 1, 1], [0, 1, 0, 0, 0, 0, 1, 1, 1, 1], [0, 1, 0, 0, 0, 1, 1, 1, 1], [2, 0, 0, 0, 1, 1, 1, 1], [1, 2], [0, 1, 1, 1, 1, 1]], [2, 5, 7], 2, ⟨[.al 0 0, .al 1 0, .own 0 3], [⟨0, 30, [.own 5 36, .own 6 39, .fd (.int .i64)], false⟩, ⟨1, 52, [.fd (.sl 4), .fd (.int .i64), .own 5 36, .own 6 39, .fd (.int .i64), .fd (.int .i64), .fd (.int .i64), .fd (.int .i64)], false⟩]⟩⟩) (by kernel_rfl) (((), (), t7, ()), ((c0, c1, c2, ()), (e0, e1, e2, e3, e4, e5, e6, e7, ()), ())) (by kernel_rfl) (by kernel_rfl)
def Tryd.m8.p : Pln := ⟨[], 0, ⟨[.fd .str], []⟩, ⟨[.st 7, .fd (.int .i64), .fd (.int .i64)], []⟩, false, [], []⟩
noncomputable def Tryd.m8.E : Env En.Dop.D4 := envOf Tryd.prog 8 Tryd.tb [Tryd.m6.c, Tryd.m7.c] Tryd.m8.p
theorem Tryd.m8.ok : plnOk En.Dop.D4 Tryd.prog 8 Tryd.m8.p = true := by kernel_rfl
noncomputable def Tryd.m8.c : Ctr En.Dop.D4 := ⟨8, Tryd.m8.p.bn, Tryd.m8.p.sp, Tryd.m8.p.rs, Tryd.m8.p.flat, .opt (Tryd.m8.E.run 3000 Tryd.m8.p.sp)⟩
theorem Tryd.m8.holds : Tryd.m8.c.Holds Tryd.prog := fun_ctr 3000 Tryd.tbOk (hct_cons Tryd.m6.holds (hct_cons Tryd.m7.holds hct_nil)) Tryd.m8.ok
noncomputable def Tryd.m8 (s : List UInt8) : Option (Spec.D En.Dop.D4 ⟨[.st 7, .fd (.int .i64), .fd (.int .i64)], []⟩) := Tryd.m8.E.run 3000 Tryd.m8.p.sp ((s, ()), ())
theorem Tryd.m8_eq (s : List UInt8) : m8 s =
 (m6 (s)).bind fun y2 =>
 if (!decide (y2.1.2.2.1 = (0 : Int))) = true then
 some ((Dop.Tre.mk (@List.nil Dop.Nde) (@List.nil Dop.Typ) (0 : Int), (y2.1.2.1, (y2.1.2.2.1, ()))), ())
 else
 (m7 y2.1.1).bind fun y4 =>
 some ((y4.1.1, (y4.1.2.1, (y4.1.2.2.1, ()))), ()) := by kernel_rfl
def Tryd.m5.p : Pln := ⟨[], 0, ⟨[], []⟩, ⟨[.fd .bool], []⟩, true, [], []⟩
noncomputable def Tryd.m5.E : Env En.Dop.D4 := envOf Tryd.prog 5 Tryd.tb [Tryd.m8.c, Tryd.m10.c, Tryd.m11.c] Tryd.m5.p
theorem Tryd.m5.ok : plnOk En.Dop.D4 Tryd.prog 5 Tryd.m5.p = true := by kernel_rfl
noncomputable def Tryd.m5.c : Ctr En.Dop.D4 := ⟨5, Tryd.m5.p.bn, Tryd.m5.p.sp, Tryd.m5.p.rs, Tryd.m5.p.flat, .opt (Tryd.m5.E.run 3000 Tryd.m5.p.sp)⟩
theorem Tryd.m5.holds : Tryd.m5.c.Holds Tryd.prog := fun_ctr 3000 Tryd.tbOk (hct_cons Tryd.m8.holds (hct_cons Tryd.m10.holds (hct_cons Tryd.m11.holds hct_nil))) Tryd.m5.ok
noncomputable def Tryd.m5 : Option (Spec.D En.Dop.D4 ⟨[.fd .bool], []⟩) := Tryd.m5.E.run 3000 Tryd.m5.p.sp ((), ())
theorem Tryd.m5_eq : m5 =
 (m8 ([105, 110, 116, 32, 109, 97, 105, 110, 40, 41, 123, 114, 101, 116, 117, 114, 110, 32, 49, 43, 50, 42, 51, 59, 125] : List UInt8)).bind fun y2 =>
 (m8 ([105, 110, 116, 32, 109, 97, 105, 110, 40, 41, 123, 114, 101, 116, 117, 114, 110, 32, 40, 49, 43, 40, 50, 42, 51, 41, 41, 59, 125] : List UInt8)).bind fun y3 =>
 if (decide (y2.1.2.2.1 = (0 : Int))) = true then
 if (decide (y3.1.2.2.1 = (0 : Int))) = true then
   (m10 y2.1.1 y3.1.1).bind fun y6 =>
 if y6.1.1 = true then
    (m11 y2.1.1).bind fun y8 =>
 some ((y8.1.1, ()), ())
 else
 some ((false, ()), ())
 else
 some ((false, ()), ())
 else
 some ((false, ()), ()) := by kernel_rfl
def Tryd.m3.p : Pln := ⟨[], 0, ⟨[.fd .str], []⟩, ⟨[.fd .bool], []⟩, true, [], []⟩
noncomputable def Tryd.m3.E : Env En.Dop.D4 := envOf Tryd.prog 3 Tryd.tb [Tryd.m5.c, Tryd.m6.c, Tryd.m7.c] Tryd.m3.p
theorem Tryd.m3.ok : plnOk En.Dop.D4 Tryd.prog 3 Tryd.m3.p = true := by kernel_rfl
noncomputable def Tryd.m3.c : Ctr En.Dop.D4 := ⟨3, Tryd.m3.p.bn, Tryd.m3.p.sp, Tryd.m3.p.rs, Tryd.m3.p.flat, .opt (Tryd.m3.E.run 3000 Tryd.m3.p.sp)⟩
theorem Tryd.m3.holds : Tryd.m3.c.Holds Tryd.prog := fun_ctr 3000 Tryd.tbOk (hct_cons Tryd.m5.holds (hct_cons Tryd.m6.holds (hct_cons Tryd.m7.holds hct_nil))) Tryd.m3.ok
noncomputable def Tryd.m3 (s : List UInt8) : Option (Spec.D En.Dop.D4 ⟨[.fd .bool], []⟩) := Tryd.m3.E.run 3000 Tryd.m3.p.sp ((s, ()), ())
theorem Tryd.m3_eq (s : List UInt8) : m3 s =
 if (decide ((3000 : Int) < I s.length)) = true then
 (m5).bind fun y3 =>
 some ((y3.1.1, ()), ())
 else
 (m6 (s)).bind fun y3 =>
 if (!decide (y3.1.2.2.1 = (0 : Int))) = true then
 (m5).bind fun y5 =>
 some ((y5.1.1, ()), ())
 else
 if (decide (I y3.1.1.length < (2 : Int))) = true then
 (m5).bind fun y6 =>
 some ((y6.1.1, ()), ())
 else
 (m7 y3.1.1).bind fun y6 =>
 if (!decide (y6.1.2.2.1 = (0 : Int))) = true then
 (m5).bind fun y8 =>
 some ((y8.1.1, ()), ())
 else
 if (inR (I y3.1.1.length - (2 : Int))) = true then
 if (decide ((0 : Int) ≤ (0 : Int) ∧ (0 : Int) ≤ I y3.1.1.length - (2 : Int) ∧ I y3.1.1.length - (2 : Int) ≤ I y3.1.1.length)) = true then
 (m7 (List.drop (Int.toNat (0 : Int)) (List.take (I y3.1.1.length - (2 : Int)).toNat y3.1.1))).bind fun y8 =>
 if (decide (y8.1.2.2.1 = (5 : Int))) = true then
 if (decide (I y8.1.1.nodes.length = (0 : Int))) = true then
 (m5).bind fun y11 =>
 some ((y11.1.1, ()), ())
 else
 some ((false, ()), ())
 else
 some ((false, ()), ())
 else none
 else none := by kernel_rfl
end Go.Proofs
