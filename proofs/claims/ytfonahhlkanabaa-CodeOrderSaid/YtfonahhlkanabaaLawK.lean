/-
  Layer 7, plain: what is known of a call that may be.
-/
import Derived.Test.YtfonahhlkanabaaLawI
set_option maxRecDepth 20000
namespace Go.Proofs.Law
open Go Go.En Go.Proofs
set_option linter.unusedSimpArgs false in
theorem uses_8_0 (op dst a b : Int) (text : List UInt8) (a0 a1 a2 a3 a4 a5 to_ else_ : Int) : Try.m34 ⟨8, op, dst, a, b, 0, text, a0, a1, a2, a3, a4, a5, to_, else_⟩ = some (([], ()), ()) := by
  simp (decide := true) only [Try.m34_eq, Try.m43_eq, Try.m43_9_eq, andC_none, Option.bind, eqSs_cons, eqSs_nil, eqS_int, eqS_str, spl_one, List.set, List.take, List.drop, List.append, List.cons_append, List.nil_append, List.append_nil, List.length_nil, List.length_cons, if_true, if_false, ↓reduceIte, decide_true, decide_false, Bool.not_true, Bool.not_false, Bool.true_and, Bool.and_true, Nat.zero_add, Nat.reduceAdd, Int.reduceAdd, Int.reduceToNat, Int.zero_add, List.getD_cons_zero, List.getD_cons_succ, Nat.reduceEqDiff, Nat.reduceLeDiff, andC_some, and_self, and_true, true_and]
  try rfl
set_option linter.unusedSimpArgs false in
theorem uses_8_1 (op dst a b : Int) (text : List UInt8) (a0 a1 a2 a3 a4 a5 to_ else_ : Int) : Try.m34 ⟨8, op, dst, a, b, 1, text, a0, a1, a2, a3, a4, a5, to_, else_⟩ = some (([a0], ()), ()) := by
  simp (decide := true) only [Try.m34_eq, Try.m43_eq, Try.m43_9_eq, andC_none, Option.bind, eqSs_cons, eqSs_nil, eqS_int, eqS_str, spl_one, List.set, List.take, List.drop, List.append, List.cons_append, List.nil_append, List.append_nil, List.length_nil, List.length_cons, if_true, if_false, ↓reduceIte, decide_true, decide_false, Bool.not_true, Bool.not_false, Bool.true_and, Bool.and_true, Nat.zero_add, Nat.reduceAdd, Int.reduceAdd, Int.reduceToNat, Int.zero_add, List.getD_cons_zero, List.getD_cons_succ, Nat.reduceEqDiff, Nat.reduceLeDiff, andC_some, and_self, and_true, true_and]
  try rfl
set_option linter.unusedSimpArgs false in
theorem uses_8_2 (op dst a b : Int) (text : List UInt8) (a0 a1 a2 a3 a4 a5 to_ else_ : Int) : Try.m34 ⟨8, op, dst, a, b, 2, text, a0, a1, a2, a3, a4, a5, to_, else_⟩ = some (([a0, a1], ()), ()) := by
  simp (decide := true) only [Try.m34_eq, Try.m43_eq, Try.m43_9_eq, andC_none, Option.bind, eqSs_cons, eqSs_nil, eqS_int, eqS_str, spl_one, List.set, List.take, List.drop, List.append, List.cons_append, List.nil_append, List.append_nil, List.length_nil, List.length_cons, if_true, if_false, ↓reduceIte, decide_true, decide_false, Bool.not_true, Bool.not_false, Bool.true_and, Bool.and_true, Nat.zero_add, Nat.reduceAdd, Int.reduceAdd, Int.reduceToNat, Int.zero_add, List.getD_cons_zero, List.getD_cons_succ, Nat.reduceEqDiff, Nat.reduceLeDiff, andC_some, and_self, and_true, true_and]
  try rfl
set_option linter.unusedSimpArgs false in
theorem uses_8_3 (op dst a b : Int) (text : List UInt8) (a0 a1 a2 a3 a4 a5 to_ else_ : Int) : Try.m34 ⟨8, op, dst, a, b, 3, text, a0, a1, a2, a3, a4, a5, to_, else_⟩ = some (([a0, a1, a2], ()), ()) := by
  simp (decide := true) only [Try.m34_eq, Try.m43_eq, Try.m43_9_eq, andC_none, Option.bind, eqSs_cons, eqSs_nil, eqS_int, eqS_str, spl_one, List.set, List.take, List.drop, List.append, List.cons_append, List.nil_append, List.append_nil, List.length_nil, List.length_cons, if_true, if_false, ↓reduceIte, decide_true, decide_false, Bool.not_true, Bool.not_false, Bool.true_and, Bool.and_true, Nat.zero_add, Nat.reduceAdd, Int.reduceAdd, Int.reduceToNat, Int.zero_add, List.getD_cons_zero, List.getD_cons_succ, Nat.reduceEqDiff, Nat.reduceLeDiff, andC_some, and_self, and_true, true_and]
  try rfl
set_option linter.unusedSimpArgs false in
theorem uses_8_4 (op dst a b : Int) (text : List UInt8) (a0 a1 a2 a3 a4 a5 to_ else_ : Int) : Try.m34 ⟨8, op, dst, a, b, 4, text, a0, a1, a2, a3, a4, a5, to_, else_⟩ = some (([a0, a1, a2, a3], ()), ()) := by
  simp (decide := true) only [Try.m34_eq, Try.m43_eq, Try.m43_9_eq, andC_none, Option.bind, eqSs_cons, eqSs_nil, eqS_int, eqS_str, spl_one, List.set, List.take, List.drop, List.append, List.cons_append, List.nil_append, List.append_nil, List.length_nil, List.length_cons, if_true, if_false, ↓reduceIte, decide_true, decide_false, Bool.not_true, Bool.not_false, Bool.true_and, Bool.and_true, Nat.zero_add, Nat.reduceAdd, Int.reduceAdd, Int.reduceToNat, Int.zero_add, List.getD_cons_zero, List.getD_cons_succ, Nat.reduceEqDiff, Nat.reduceLeDiff, andC_some, and_self, and_true, true_and]
  try rfl
set_option linter.unusedSimpArgs false in
theorem uses_8_5 (op dst a b : Int) (text : List UInt8) (a0 a1 a2 a3 a4 a5 to_ else_ : Int) : Try.m34 ⟨8, op, dst, a, b, 5, text, a0, a1, a2, a3, a4, a5, to_, else_⟩ = some (([a0, a1, a2, a3, a4], ()), ()) := by
  simp (decide := true) only [Try.m34_eq, Try.m43_eq, Try.m43_9_eq, andC_none, Option.bind, eqSs_cons, eqSs_nil, eqS_int, eqS_str, spl_one, List.set, List.take, List.drop, List.append, List.cons_append, List.nil_append, List.append_nil, List.length_nil, List.length_cons, if_true, if_false, ↓reduceIte, decide_true, decide_false, Bool.not_true, Bool.not_false, Bool.true_and, Bool.and_true, Nat.zero_add, Nat.reduceAdd, Int.reduceAdd, Int.reduceToNat, Int.zero_add, List.getD_cons_zero, List.getD_cons_succ, Nat.reduceEqDiff, Nat.reduceLeDiff, andC_some, and_self, and_true, true_and]
  try rfl
set_option linter.unusedSimpArgs false in
theorem uses_8_6 (op dst a b : Int) (text : List UInt8) (a0 a1 a2 a3 a4 a5 to_ else_ : Int) : Try.m34 ⟨8, op, dst, a, b, 6, text, a0, a1, a2, a3, a4, a5, to_, else_⟩ = some (([a0, a1, a2, a3, a4, a5], ()), ()) := by
  simp (decide := true) only [Try.m34_eq, Try.m43_eq, Try.m43_9_eq, andC_none, Option.bind, eqSs_cons, eqSs_nil, eqS_int, eqS_str, spl_one, List.set, List.take, List.drop, List.append, List.cons_append, List.nil_append, List.append_nil, List.length_nil, List.length_cons, if_true, if_false, ↓reduceIte, decide_true, decide_false, Bool.not_true, Bool.not_false, Bool.true_and, Bool.and_true, Nat.zero_add, Nat.reduceAdd, Int.reduceAdd, Int.reduceToNat, Int.zero_add, List.getD_cons_zero, List.getD_cons_succ, Nat.reduceEqDiff, Nat.reduceLeDiff, andC_some, and_self, and_true, true_and]
  try rfl
set_option linter.unusedSimpArgs false in
theorem known_8_0 (op dst a b : Int) (text : List UInt8) (a0 a1 a2 a3 a4 a5 to_ else_ : Int) (f : En.Dop.Fnc) : Try.m20 ⟨8, op, dst, a, b, 0, text, a0, a1, a2, a3, a4, a5, to_, else_⟩ f = some ((true, ()), ()) → okR f [] = true ∧ ((decide (0 ≤ dst) && decide (dst < f.regs)) = true ∨ decide (dst = -1) = true) := by
  simp (decide := true) only [Try.m20_eq, Try.m32_eq, Try.m43_eq, Try.m43_9_eq, Try.m18_eq, Try.m29_eq, Try.m32_9_eq, Try.m32_16_eq, Try.m32_18_eq, m30_v, Try.m34_eq, m33_v, andC_none, okR, List.all_nil, List.all_cons,
    Option.bind, eqSs_cons, eqSs_nil, eqS_int, eqS_str, spl_one, List.set, List.take, List.drop, List.append, List.cons_append, List.nil_append, List.append_nil, List.length_nil, List.length_cons, if_true, if_false, ↓reduceIte, decide_true, decide_false, Bool.not_true, Bool.not_false, Bool.true_and, Bool.and_true, Nat.zero_add, Nat.reduceAdd, Int.reduceAdd, Int.reduceToNat, Int.zero_add, List.getD_cons_zero, List.getD_cons_succ, Nat.reduceEqDiff, Nat.reduceLeDiff, andC_some, and_self, and_true, true_and]
  generalize (decide (op = 0) && (decide (a = 0) && (decide (b = 0) && (decide (a0 = 0) && (decide (a1 = 0) && (decide (a2 = 0) && (decide (a3 = 0) && (decide (a4 = 0) && (decide (a5 = 0) && (decide (to_ = 0) && decide (else_ = -1))))))))))) = E
  generalize decide (text = []) = T
  generalize (decide (0 ≤ dst) && decide (dst < f.regs)) = X; generalize decide (dst = -1) = Y
  cases E <;> cases T <;> cases X <;> cases Y <;> first | (intro _; simp; done) | (intro h; simp [Option.bind] at h; done)
set_option linter.unusedSimpArgs false in
theorem known_8_1 (op dst a b : Int) (text : List UInt8) (a0 a1 a2 a3 a4 a5 to_ else_ : Int) (f : En.Dop.Fnc) : Try.m20 ⟨8, op, dst, a, b, 1, text, a0, a1, a2, a3, a4, a5, to_, else_⟩ f = some ((true, ()), ()) → okR f [a0] = true ∧ ((decide (0 ≤ dst) && decide (dst < f.regs)) = true ∨ decide (dst = -1) = true) := by
  simp (decide := true) only [Try.m20_eq, Try.m32_eq, Try.m43_eq, Try.m43_9_eq, Try.m18_eq, Try.m29_eq, Try.m32_9_eq, Try.m32_16_eq, Try.m32_18_eq, m30_v, Try.m34_eq, m33_v, andC_none, okR, List.all_nil, List.all_cons,
    Option.bind, eqSs_cons, eqSs_nil, eqS_int, eqS_str, spl_one, List.set, List.take, List.drop, List.append, List.cons_append, List.nil_append, List.append_nil, List.length_nil, List.length_cons, if_true, if_false, ↓reduceIte, decide_true, decide_false, Bool.not_true, Bool.not_false, Bool.true_and, Bool.and_true, Nat.zero_add, Nat.reduceAdd, Int.reduceAdd, Int.reduceToNat, Int.zero_add, List.getD_cons_zero, List.getD_cons_succ, Nat.reduceEqDiff, Nat.reduceLeDiff, andC_some, and_self, and_true, true_and]
  generalize (decide (op = 0) && (decide (a = 0) && (decide (b = 0) && (decide (a1 = 0) && (decide (a2 = 0) && (decide (a3 = 0) && (decide (a4 = 0) && (decide (a5 = 0) && (decide (to_ = 0) && decide (else_ = -1)))))))))) = E
  generalize (decide (0 ≤ a0) && decide (a0 < f.regs)) = R
  generalize decide (text = []) = T
  generalize (decide (0 ≤ dst) && decide (dst < f.regs)) = X; generalize decide (dst = -1) = Y
  cases E <;> cases R <;> cases T <;> cases X <;> cases Y <;> first | (intro _; simp; done) | (intro h; simp [Option.bind] at h; done)
set_option linter.unusedSimpArgs false in
theorem known_8_2 (op dst a b : Int) (text : List UInt8) (a0 a1 a2 a3 a4 a5 to_ else_ : Int) (f : En.Dop.Fnc) : Try.m20 ⟨8, op, dst, a, b, 2, text, a0, a1, a2, a3, a4, a5, to_, else_⟩ f = some ((true, ()), ()) → okR f [a0, a1] = true ∧ ((decide (0 ≤ dst) && decide (dst < f.regs)) = true ∨ decide (dst = -1) = true) := by
  simp (decide := true) only [Try.m20_eq, Try.m32_eq, Try.m43_eq, Try.m43_9_eq, Try.m18_eq, Try.m29_eq, Try.m32_9_eq, Try.m32_16_eq, Try.m32_18_eq, m30_v, Try.m34_eq, m33_v, andC_none, okR, List.all_nil, List.all_cons,
    Option.bind, eqSs_cons, eqSs_nil, eqS_int, eqS_str, spl_one, List.set, List.take, List.drop, List.append, List.cons_append, List.nil_append, List.append_nil, List.length_nil, List.length_cons, if_true, if_false, ↓reduceIte, decide_true, decide_false, Bool.not_true, Bool.not_false, Bool.true_and, Bool.and_true, Nat.zero_add, Nat.reduceAdd, Int.reduceAdd, Int.reduceToNat, Int.zero_add, List.getD_cons_zero, List.getD_cons_succ, Nat.reduceEqDiff, Nat.reduceLeDiff, andC_some, and_self, and_true, true_and]
  generalize (decide (op = 0) && (decide (a = 0) && (decide (b = 0) && (decide (a2 = 0) && (decide (a3 = 0) && (decide (a4 = 0) && (decide (a5 = 0) && (decide (to_ = 0) && decide (else_ = -1))))))))) = E
  generalize ((decide (0 ≤ a0) && decide (a0 < f.regs)) && (decide (0 ≤ a1) && decide (a1 < f.regs))) = R
  generalize decide (text = []) = T
  generalize (decide (0 ≤ dst) && decide (dst < f.regs)) = X; generalize decide (dst = -1) = Y
  cases E <;> cases R <;> cases T <;> cases X <;> cases Y <;> first | (intro _; simp; done) | (intro h; simp [Option.bind] at h; done)
set_option linter.unusedSimpArgs false in
theorem known_8_3 (op dst a b : Int) (text : List UInt8) (a0 a1 a2 a3 a4 a5 to_ else_ : Int) (f : En.Dop.Fnc) : Try.m20 ⟨8, op, dst, a, b, 3, text, a0, a1, a2, a3, a4, a5, to_, else_⟩ f = some ((true, ()), ()) → okR f [a0, a1, a2] = true ∧ ((decide (0 ≤ dst) && decide (dst < f.regs)) = true ∨ decide (dst = -1) = true) := by
  simp (decide := true) only [Try.m20_eq, Try.m32_eq, Try.m43_eq, Try.m43_9_eq, Try.m18_eq, Try.m29_eq, Try.m32_9_eq, Try.m32_16_eq, Try.m32_18_eq, m30_v, Try.m34_eq, m33_v, andC_none, okR, List.all_nil, List.all_cons,
    Option.bind, eqSs_cons, eqSs_nil, eqS_int, eqS_str, spl_one, List.set, List.take, List.drop, List.append, List.cons_append, List.nil_append, List.append_nil, List.length_nil, List.length_cons, if_true, if_false, ↓reduceIte, decide_true, decide_false, Bool.not_true, Bool.not_false, Bool.true_and, Bool.and_true, Nat.zero_add, Nat.reduceAdd, Int.reduceAdd, Int.reduceToNat, Int.zero_add, List.getD_cons_zero, List.getD_cons_succ, Nat.reduceEqDiff, Nat.reduceLeDiff, andC_some, and_self, and_true, true_and]
  generalize (decide (op = 0) && (decide (a = 0) && (decide (b = 0) && (decide (a3 = 0) && (decide (a4 = 0) && (decide (a5 = 0) && (decide (to_ = 0) && decide (else_ = -1)))))))) = E
  generalize ((decide (0 ≤ a0) && decide (a0 < f.regs)) && ((decide (0 ≤ a1) && decide (a1 < f.regs)) && (decide (0 ≤ a2) && decide (a2 < f.regs)))) = R
  generalize decide (text = []) = T
  generalize (decide (0 ≤ dst) && decide (dst < f.regs)) = X; generalize decide (dst = -1) = Y
  cases E <;> cases R <;> cases T <;> cases X <;> cases Y <;> first | (intro _; simp; done) | (intro h; simp [Option.bind] at h; done)
set_option linter.unusedSimpArgs false in
theorem known_8_4 (op dst a b : Int) (text : List UInt8) (a0 a1 a2 a3 a4 a5 to_ else_ : Int) (f : En.Dop.Fnc) : Try.m20 ⟨8, op, dst, a, b, 4, text, a0, a1, a2, a3, a4, a5, to_, else_⟩ f = some ((true, ()), ()) → okR f [a0, a1, a2, a3] = true ∧ ((decide (0 ≤ dst) && decide (dst < f.regs)) = true ∨ decide (dst = -1) = true) := by
  simp (decide := true) only [Try.m20_eq, Try.m32_eq, Try.m43_eq, Try.m43_9_eq, Try.m18_eq, Try.m29_eq, Try.m32_9_eq, Try.m32_16_eq, Try.m32_18_eq, m30_v, Try.m34_eq, m33_v, andC_none, okR, List.all_nil, List.all_cons,
    Option.bind, eqSs_cons, eqSs_nil, eqS_int, eqS_str, spl_one, List.set, List.take, List.drop, List.append, List.cons_append, List.nil_append, List.append_nil, List.length_nil, List.length_cons, if_true, if_false, ↓reduceIte, decide_true, decide_false, Bool.not_true, Bool.not_false, Bool.true_and, Bool.and_true, Nat.zero_add, Nat.reduceAdd, Int.reduceAdd, Int.reduceToNat, Int.zero_add, List.getD_cons_zero, List.getD_cons_succ, Nat.reduceEqDiff, Nat.reduceLeDiff, andC_some, and_self, and_true, true_and]
  generalize (decide (op = 0) && (decide (a = 0) && (decide (b = 0) && (decide (a4 = 0) && (decide (a5 = 0) && (decide (to_ = 0) && decide (else_ = -1))))))) = E
  generalize ((decide (0 ≤ a0) && decide (a0 < f.regs)) && ((decide (0 ≤ a1) && decide (a1 < f.regs)) && ((decide (0 ≤ a2) && decide (a2 < f.regs)) && (decide (0 ≤ a3) && decide (a3 < f.regs))))) = R
  generalize decide (text = []) = T
  generalize (decide (0 ≤ dst) && decide (dst < f.regs)) = X; generalize decide (dst = -1) = Y
  cases E <;> cases R <;> cases T <;> cases X <;> cases Y <;> first | (intro _; simp; done) | (intro h; simp [Option.bind] at h; done)
set_option linter.unusedSimpArgs false in
theorem known_8_5 (op dst a b : Int) (text : List UInt8) (a0 a1 a2 a3 a4 a5 to_ else_ : Int) (f : En.Dop.Fnc) : Try.m20 ⟨8, op, dst, a, b, 5, text, a0, a1, a2, a3, a4, a5, to_, else_⟩ f = some ((true, ()), ()) → okR f [a0, a1, a2, a3, a4] = true ∧ ((decide (0 ≤ dst) && decide (dst < f.regs)) = true ∨ decide (dst = -1) = true) := by
  simp (decide := true) only [Try.m20_eq, Try.m32_eq, Try.m43_eq, Try.m43_9_eq, Try.m18_eq, Try.m29_eq, Try.m32_9_eq, Try.m32_16_eq, Try.m32_18_eq, m30_v, Try.m34_eq, m33_v, andC_none, okR, List.all_nil, List.all_cons,
    Option.bind, eqSs_cons, eqSs_nil, eqS_int, eqS_str, spl_one, List.set, List.take, List.drop, List.append, List.cons_append, List.nil_append, List.append_nil, List.length_nil, List.length_cons, if_true, if_false, ↓reduceIte, decide_true, decide_false, Bool.not_true, Bool.not_false, Bool.true_and, Bool.and_true, Nat.zero_add, Nat.reduceAdd, Int.reduceAdd, Int.reduceToNat, Int.zero_add, List.getD_cons_zero, List.getD_cons_succ, Nat.reduceEqDiff, Nat.reduceLeDiff, andC_some, and_self, and_true, true_and]
  generalize (decide (op = 0) && (decide (a = 0) && (decide (b = 0) && (decide (a5 = 0) && (decide (to_ = 0) && decide (else_ = -1)))))) = E
  generalize ((decide (0 ≤ a0) && decide (a0 < f.regs)) && ((decide (0 ≤ a1) && decide (a1 < f.regs)) && ((decide (0 ≤ a2) && decide (a2 < f.regs)) && ((decide (0 ≤ a3) && decide (a3 < f.regs)) && (decide (0 ≤ a4) && decide (a4 < f.regs)))))) = R
  generalize decide (text = []) = T
  generalize (decide (0 ≤ dst) && decide (dst < f.regs)) = X; generalize decide (dst = -1) = Y
  cases E <;> cases R <;> cases T <;> cases X <;> cases Y <;> first | (intro _; simp; done) | (intro h; simp [Option.bind] at h; done)
set_option linter.unusedSimpArgs false in
theorem known_8_6 (op dst a b : Int) (text : List UInt8) (a0 a1 a2 a3 a4 a5 to_ else_ : Int) (f : En.Dop.Fnc) : Try.m20 ⟨8, op, dst, a, b, 6, text, a0, a1, a2, a3, a4, a5, to_, else_⟩ f = some ((true, ()), ()) → okR f [a0, a1, a2, a3, a4, a5] = true ∧ ((decide (0 ≤ dst) && decide (dst < f.regs)) = true ∨ decide (dst = -1) = true) := by
  simp (decide := true) only [Try.m20_eq, Try.m32_eq, Try.m43_eq, Try.m43_9_eq, Try.m18_eq, Try.m29_eq, Try.m32_9_eq, Try.m32_16_eq, Try.m32_18_eq, m30_v, Try.m34_eq, m33_v, andC_none, okR, List.all_nil, List.all_cons,
    Option.bind, eqSs_cons, eqSs_nil, eqS_int, eqS_str, spl_one, List.set, List.take, List.drop, List.append, List.cons_append, List.nil_append, List.append_nil, List.length_nil, List.length_cons, if_true, if_false, ↓reduceIte, decide_true, decide_false, Bool.not_true, Bool.not_false, Bool.true_and, Bool.and_true, Nat.zero_add, Nat.reduceAdd, Int.reduceAdd, Int.reduceToNat, Int.zero_add, List.getD_cons_zero, List.getD_cons_succ, Nat.reduceEqDiff, Nat.reduceLeDiff, andC_some, and_self, and_true, true_and]
  generalize (decide (op = 0) && (decide (a = 0) && (decide (b = 0) && (decide (to_ = 0) && decide (else_ = -1))))) = E
  generalize ((decide (0 ≤ a0) && decide (a0 < f.regs)) && ((decide (0 ≤ a1) && decide (a1 < f.regs)) && ((decide (0 ≤ a2) && decide (a2 < f.regs)) && ((decide (0 ≤ a3) && decide (a3 < f.regs)) && ((decide (0 ≤ a4) && decide (a4 < f.regs)) && (decide (0 ≤ a5) && decide (a5 < f.regs))))))) = R
  generalize decide (text = []) = T
  generalize (decide (0 ≤ dst) && decide (dst < f.regs)) = X; generalize decide (dst = -1) = Y
  cases E <;> cases R <;> cases T <;> cases X <;> cases Y <;> first | (intro _; simp; done) | (intro h; simp [Option.bind] at h; done)
end Go.Proofs.Law
