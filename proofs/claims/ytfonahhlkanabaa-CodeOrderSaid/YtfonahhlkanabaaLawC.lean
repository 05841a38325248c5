/-
  Layer 7, plain: whether a call may be.
-/
import Derived.Test.YtfonahhlkanabaaLawB
set_option maxRecDepth 20000
namespace Go.Proofs.Law
open Go Go.En Go.Proofs

set_option linter.unusedSimpArgs false in
theorem andC_some (a b : Bool) : andC (some a) b = (a && b) := by cases a <;> cases b <;> rfl
set_option linter.unusedSimpArgs false in
theorem len_nil (l : List UInt8) : decide (I l.length = 0) = decide (l = []) := by cases l <;> simp [I_eq]; omega
set_option linter.unusedSimpArgs false in
theorem both_8_0 (op dst a b : Int) (text : List UInt8) (a0 a1 a2 a3 a4 a5 to_ else_ : Int) (f : En.Dop.Fnc) (hr : 0 ≤ f.regs) : Both ⟨8, op, dst, a, b, 0, text, a0, a1, a2, a3, a4, a5, to_, else_⟩ f := by
  unfold Both
  simp (decide := true) only [Try.m20_eq, Try.m32_eq, Try.m43_eq, Try.m43_9_eq, Try.m18_eq, Try.m29_eq, Try.m32_9_eq, Try.m32_16_eq, Try.m32_18_eq, m30_v, Try.m34_eq, m33_v, Try.m21_eq, Try.m37_eq, Try.m37_5_eq, Try.m37_9_eq, m21_rest, andC_none,
    Option.bind, eqSs_cons, eqSs_nil, eqS_int, eqS_str, spl_one, List.set, List.take, List.drop, List.append, List.cons_append, List.nil_append, List.append_nil, List.length_nil, List.length_cons, if_true, if_false, ↓reduceIte, decide_true, decide_false, Bool.not_true, Bool.not_false, Bool.true_and, Bool.and_true, Nat.zero_add, Nat.reduceAdd, Int.reduceAdd, Int.reduceToNat, Int.zero_add, List.getD_cons_zero, List.getD_cons_succ, Nat.reduceEqDiff, Nat.reduceLeDiff, andC_some, and_self, and_true, true_and]
  simp (decide := true) only [rest, Try.m21_6_eq, Try.m38_eq, Try.m21_16_eq, Try.m21_19_eq, Try.m21_21_eq, Try.m21_23_eq, Try.m21_27_eq, Try.m21_32_eq, Try.m21_35_eq, Try.m21_39_eq, Try.m21_43_eq, okR, List.all_nil, List.all_cons, len_nil,
    Option.bind, eqSs_cons, eqSs_nil, eqS_int, eqS_str, spl_one, List.set, List.take, List.drop, List.append, List.cons_append, List.nil_append, List.append_nil, List.length_nil, List.length_cons, if_true, if_false, ↓reduceIte, decide_true, decide_false, Bool.not_true, Bool.not_false, Bool.true_and, Bool.and_true, Nat.zero_add, Nat.reduceAdd, Int.reduceAdd, Int.reduceToNat, Int.zero_add, List.getD_cons_zero, List.getD_cons_succ, Nat.reduceEqDiff, Nat.reduceLeDiff, andC_some, and_self, and_true, true_and]
  generalize (decide (op = 0) && (decide (a = 0) && (decide (b = 0) && (decide (a0 = 0) && (decide (a1 = 0) && (decide (a2 = 0) && (decide (a3 = 0) && (decide (a4 = 0) && (decide (a5 = 0) && (decide (to_ = 0) && decide (else_ = -1))))))))))) = E
  generalize decide (text = []) = T
  by_cases d3 : dst = -1
  · subst d3
    have hr' : ¬ f.regs ≤ -1 := by omega
    simp (decide := true) only [hr', lt_not, Bool.not_true, Bool.not_false, Bool.false_and, if_true, if_false, ↓reduceIte, Option.bind, decide_false]
    cases E <;> cases T <;> exact ⟨_, rfl, rfl⟩
  · simp only [d3, lt_not, decide_false]
    generalize decide (0 ≤ dst) = x0; generalize decide (f.regs ≤ dst) = x1; cases E <;> cases T <;> cases x0 <;> cases x1 <;> exact ⟨_, rfl, rfl⟩
set_option linter.unusedSimpArgs false in
theorem both_8_1 (op dst a b : Int) (text : List UInt8) (a0 a1 a2 a3 a4 a5 to_ else_ : Int) (f : En.Dop.Fnc) (hr : 0 ≤ f.regs) : Both ⟨8, op, dst, a, b, 1, text, a0, a1, a2, a3, a4, a5, to_, else_⟩ f := by
  unfold Both
  simp (decide := true) only [Try.m20_eq, Try.m32_eq, Try.m43_eq, Try.m43_9_eq, Try.m18_eq, Try.m29_eq, Try.m32_9_eq, Try.m32_16_eq, Try.m32_18_eq, m30_v, Try.m34_eq, m33_v, Try.m21_eq, Try.m37_eq, Try.m37_5_eq, Try.m37_9_eq, m21_rest, andC_none,
    Option.bind, eqSs_cons, eqSs_nil, eqS_int, eqS_str, spl_one, List.set, List.take, List.drop, List.append, List.cons_append, List.nil_append, List.append_nil, List.length_nil, List.length_cons, if_true, if_false, ↓reduceIte, decide_true, decide_false, Bool.not_true, Bool.not_false, Bool.true_and, Bool.and_true, Nat.zero_add, Nat.reduceAdd, Int.reduceAdd, Int.reduceToNat, Int.zero_add, List.getD_cons_zero, List.getD_cons_succ, Nat.reduceEqDiff, Nat.reduceLeDiff, andC_some, and_self, and_true, true_and]
  simp (decide := true) only [rest, Try.m21_6_eq, Try.m38_eq, Try.m21_16_eq, Try.m21_19_eq, Try.m21_21_eq, Try.m21_23_eq, Try.m21_27_eq, Try.m21_32_eq, Try.m21_35_eq, Try.m21_39_eq, Try.m21_43_eq, okR, List.all_nil, List.all_cons, len_nil,
    Option.bind, eqSs_cons, eqSs_nil, eqS_int, eqS_str, spl_one, List.set, List.take, List.drop, List.append, List.cons_append, List.nil_append, List.append_nil, List.length_nil, List.length_cons, if_true, if_false, ↓reduceIte, decide_true, decide_false, Bool.not_true, Bool.not_false, Bool.true_and, Bool.and_true, Nat.zero_add, Nat.reduceAdd, Int.reduceAdd, Int.reduceToNat, Int.zero_add, List.getD_cons_zero, List.getD_cons_succ, Nat.reduceEqDiff, Nat.reduceLeDiff, andC_some, and_self, and_true, true_and]
  generalize (decide (op = 0) && (decide (a = 0) && (decide (b = 0) && (decide (a1 = 0) && (decide (a2 = 0) && (decide (a3 = 0) && (decide (a4 = 0) && (decide (a5 = 0) && (decide (to_ = 0) && decide (else_ = -1)))))))))) = E
  generalize (decide (0 ≤ a0) && decide (a0 < f.regs)) = R
  generalize decide (text = []) = T
  by_cases d3 : dst = -1
  · subst d3
    have hr' : ¬ f.regs ≤ -1 := by omega
    simp (decide := true) only [hr', lt_not, Bool.not_true, Bool.not_false, Bool.false_and, if_true, if_false, ↓reduceIte, Option.bind, decide_false]
    cases E <;> cases R <;> cases T <;> exact ⟨_, rfl, rfl⟩
  · simp only [d3, lt_not, decide_false]
    generalize decide (0 ≤ dst) = x0; generalize decide (f.regs ≤ dst) = x1; cases E <;> cases R <;> cases T <;> cases x0 <;> cases x1 <;> exact ⟨_, rfl, rfl⟩
set_option linter.unusedSimpArgs false in
theorem both_8_2 (op dst a b : Int) (text : List UInt8) (a0 a1 a2 a3 a4 a5 to_ else_ : Int) (f : En.Dop.Fnc) (hr : 0 ≤ f.regs) : Both ⟨8, op, dst, a, b, 2, text, a0, a1, a2, a3, a4, a5, to_, else_⟩ f := by
  unfold Both
  simp (decide := true) only [Try.m20_eq, Try.m32_eq, Try.m43_eq, Try.m43_9_eq, Try.m18_eq, Try.m29_eq, Try.m32_9_eq, Try.m32_16_eq, Try.m32_18_eq, m30_v, Try.m34_eq, m33_v, Try.m21_eq, Try.m37_eq, Try.m37_5_eq, Try.m37_9_eq, m21_rest, andC_none,
    Option.bind, eqSs_cons, eqSs_nil, eqS_int, eqS_str, spl_one, List.set, List.take, List.drop, List.append, List.cons_append, List.nil_append, List.append_nil, List.length_nil, List.length_cons, if_true, if_false, ↓reduceIte, decide_true, decide_false, Bool.not_true, Bool.not_false, Bool.true_and, Bool.and_true, Nat.zero_add, Nat.reduceAdd, Int.reduceAdd, Int.reduceToNat, Int.zero_add, List.getD_cons_zero, List.getD_cons_succ, Nat.reduceEqDiff, Nat.reduceLeDiff, andC_some, and_self, and_true, true_and]
  simp (decide := true) only [rest, Try.m21_6_eq, Try.m38_eq, Try.m21_16_eq, Try.m21_19_eq, Try.m21_21_eq, Try.m21_23_eq, Try.m21_27_eq, Try.m21_32_eq, Try.m21_35_eq, Try.m21_39_eq, Try.m21_43_eq, okR, List.all_nil, List.all_cons, len_nil,
    Option.bind, eqSs_cons, eqSs_nil, eqS_int, eqS_str, spl_one, List.set, List.take, List.drop, List.append, List.cons_append, List.nil_append, List.append_nil, List.length_nil, List.length_cons, if_true, if_false, ↓reduceIte, decide_true, decide_false, Bool.not_true, Bool.not_false, Bool.true_and, Bool.and_true, Nat.zero_add, Nat.reduceAdd, Int.reduceAdd, Int.reduceToNat, Int.zero_add, List.getD_cons_zero, List.getD_cons_succ, Nat.reduceEqDiff, Nat.reduceLeDiff, andC_some, and_self, and_true, true_and]
  generalize (decide (op = 0) && (decide (a = 0) && (decide (b = 0) && (decide (a2 = 0) && (decide (a3 = 0) && (decide (a4 = 0) && (decide (a5 = 0) && (decide (to_ = 0) && decide (else_ = -1))))))))) = E
  generalize ((decide (0 ≤ a0) && decide (a0 < f.regs)) && (decide (0 ≤ a1) && decide (a1 < f.regs))) = R
  generalize decide (text = []) = T
  by_cases d3 : dst = -1
  · subst d3
    have hr' : ¬ f.regs ≤ -1 := by omega
    simp (decide := true) only [hr', lt_not, Bool.not_true, Bool.not_false, Bool.false_and, if_true, if_false, ↓reduceIte, Option.bind, decide_false]
    cases E <;> cases R <;> cases T <;> exact ⟨_, rfl, rfl⟩
  · simp only [d3, lt_not, decide_false]
    generalize decide (0 ≤ dst) = x0; generalize decide (f.regs ≤ dst) = x1; cases E <;> cases R <;> cases T <;> cases x0 <;> cases x1 <;> exact ⟨_, rfl, rfl⟩
set_option linter.unusedSimpArgs false in
theorem both_8_3 (op dst a b : Int) (text : List UInt8) (a0 a1 a2 a3 a4 a5 to_ else_ : Int) (f : En.Dop.Fnc) (hr : 0 ≤ f.regs) : Both ⟨8, op, dst, a, b, 3, text, a0, a1, a2, a3, a4, a5, to_, else_⟩ f := by
  unfold Both
  simp (decide := true) only [Try.m20_eq, Try.m32_eq, Try.m43_eq, Try.m43_9_eq, Try.m18_eq, Try.m29_eq, Try.m32_9_eq, Try.m32_16_eq, Try.m32_18_eq, m30_v, Try.m34_eq, m33_v, Try.m21_eq, Try.m37_eq, Try.m37_5_eq, Try.m37_9_eq, m21_rest, andC_none,
    Option.bind, eqSs_cons, eqSs_nil, eqS_int, eqS_str, spl_one, List.set, List.take, List.drop, List.append, List.cons_append, List.nil_append, List.append_nil, List.length_nil, List.length_cons, if_true, if_false, ↓reduceIte, decide_true, decide_false, Bool.not_true, Bool.not_false, Bool.true_and, Bool.and_true, Nat.zero_add, Nat.reduceAdd, Int.reduceAdd, Int.reduceToNat, Int.zero_add, List.getD_cons_zero, List.getD_cons_succ, Nat.reduceEqDiff, Nat.reduceLeDiff, andC_some, and_self, and_true, true_and]
  simp (decide := true) only [rest, Try.m21_6_eq, Try.m38_eq, Try.m21_16_eq, Try.m21_19_eq, Try.m21_21_eq, Try.m21_23_eq, Try.m21_27_eq, Try.m21_32_eq, Try.m21_35_eq, Try.m21_39_eq, Try.m21_43_eq, okR, List.all_nil, List.all_cons, len_nil,
    Option.bind, eqSs_cons, eqSs_nil, eqS_int, eqS_str, spl_one, List.set, List.take, List.drop, List.append, List.cons_append, List.nil_append, List.append_nil, List.length_nil, List.length_cons, if_true, if_false, ↓reduceIte, decide_true, decide_false, Bool.not_true, Bool.not_false, Bool.true_and, Bool.and_true, Nat.zero_add, Nat.reduceAdd, Int.reduceAdd, Int.reduceToNat, Int.zero_add, List.getD_cons_zero, List.getD_cons_succ, Nat.reduceEqDiff, Nat.reduceLeDiff, andC_some, and_self, and_true, true_and]
  generalize (decide (op = 0) && (decide (a = 0) && (decide (b = 0) && (decide (a3 = 0) && (decide (a4 = 0) && (decide (a5 = 0) && (decide (to_ = 0) && decide (else_ = -1)))))))) = E
  generalize ((decide (0 ≤ a0) && decide (a0 < f.regs)) && ((decide (0 ≤ a1) && decide (a1 < f.regs)) && (decide (0 ≤ a2) && decide (a2 < f.regs)))) = R
  generalize decide (text = []) = T
  by_cases d3 : dst = -1
  · subst d3
    have hr' : ¬ f.regs ≤ -1 := by omega
    simp (decide := true) only [hr', lt_not, Bool.not_true, Bool.not_false, Bool.false_and, if_true, if_false, ↓reduceIte, Option.bind, decide_false]
    cases E <;> cases R <;> cases T <;> exact ⟨_, rfl, rfl⟩
  · simp only [d3, lt_not, decide_false]
    generalize decide (0 ≤ dst) = x0; generalize decide (f.regs ≤ dst) = x1; cases E <;> cases R <;> cases T <;> cases x0 <;> cases x1 <;> exact ⟨_, rfl, rfl⟩
set_option linter.unusedSimpArgs false in
theorem both_8_4 (op dst a b : Int) (text : List UInt8) (a0 a1 a2 a3 a4 a5 to_ else_ : Int) (f : En.Dop.Fnc) (hr : 0 ≤ f.regs) : Both ⟨8, op, dst, a, b, 4, text, a0, a1, a2, a3, a4, a5, to_, else_⟩ f := by
  unfold Both
  simp (decide := true) only [Try.m20_eq, Try.m32_eq, Try.m43_eq, Try.m43_9_eq, Try.m18_eq, Try.m29_eq, Try.m32_9_eq, Try.m32_16_eq, Try.m32_18_eq, m30_v, Try.m34_eq, m33_v, Try.m21_eq, Try.m37_eq, Try.m37_5_eq, Try.m37_9_eq, m21_rest, andC_none,
    Option.bind, eqSs_cons, eqSs_nil, eqS_int, eqS_str, spl_one, List.set, List.take, List.drop, List.append, List.cons_append, List.nil_append, List.append_nil, List.length_nil, List.length_cons, if_true, if_false, ↓reduceIte, decide_true, decide_false, Bool.not_true, Bool.not_false, Bool.true_and, Bool.and_true, Nat.zero_add, Nat.reduceAdd, Int.reduceAdd, Int.reduceToNat, Int.zero_add, List.getD_cons_zero, List.getD_cons_succ, Nat.reduceEqDiff, Nat.reduceLeDiff, andC_some, and_self, and_true, true_and]
  simp (decide := true) only [rest, Try.m21_6_eq, Try.m38_eq, Try.m21_16_eq, Try.m21_19_eq, Try.m21_21_eq, Try.m21_23_eq, Try.m21_27_eq, Try.m21_32_eq, Try.m21_35_eq, Try.m21_39_eq, Try.m21_43_eq, okR, List.all_nil, List.all_cons, len_nil,
    Option.bind, eqSs_cons, eqSs_nil, eqS_int, eqS_str, spl_one, List.set, List.take, List.drop, List.append, List.cons_append, List.nil_append, List.append_nil, List.length_nil, List.length_cons, if_true, if_false, ↓reduceIte, decide_true, decide_false, Bool.not_true, Bool.not_false, Bool.true_and, Bool.and_true, Nat.zero_add, Nat.reduceAdd, Int.reduceAdd, Int.reduceToNat, Int.zero_add, List.getD_cons_zero, List.getD_cons_succ, Nat.reduceEqDiff, Nat.reduceLeDiff, andC_some, and_self, and_true, true_and]
  generalize (decide (op = 0) && (decide (a = 0) && (decide (b = 0) && (decide (a4 = 0) && (decide (a5 = 0) && (decide (to_ = 0) && decide (else_ = -1))))))) = E
  generalize ((decide (0 ≤ a0) && decide (a0 < f.regs)) && ((decide (0 ≤ a1) && decide (a1 < f.regs)) && ((decide (0 ≤ a2) && decide (a2 < f.regs)) && (decide (0 ≤ a3) && decide (a3 < f.regs))))) = R
  generalize decide (text = []) = T
  by_cases d3 : dst = -1
  · subst d3
    have hr' : ¬ f.regs ≤ -1 := by omega
    simp (decide := true) only [hr', lt_not, Bool.not_true, Bool.not_false, Bool.false_and, if_true, if_false, ↓reduceIte, Option.bind, decide_false]
    cases E <;> cases R <;> cases T <;> exact ⟨_, rfl, rfl⟩
  · simp only [d3, lt_not, decide_false]
    generalize decide (0 ≤ dst) = x0; generalize decide (f.regs ≤ dst) = x1; cases E <;> cases R <;> cases T <;> cases x0 <;> cases x1 <;> exact ⟨_, rfl, rfl⟩
set_option linter.unusedSimpArgs false in
theorem both_8_5 (op dst a b : Int) (text : List UInt8) (a0 a1 a2 a3 a4 a5 to_ else_ : Int) (f : En.Dop.Fnc) (hr : 0 ≤ f.regs) : Both ⟨8, op, dst, a, b, 5, text, a0, a1, a2, a3, a4, a5, to_, else_⟩ f := by
  unfold Both
  simp (decide := true) only [Try.m20_eq, Try.m32_eq, Try.m43_eq, Try.m43_9_eq, Try.m18_eq, Try.m29_eq, Try.m32_9_eq, Try.m32_16_eq, Try.m32_18_eq, m30_v, Try.m34_eq, m33_v, Try.m21_eq, Try.m37_eq, Try.m37_5_eq, Try.m37_9_eq, m21_rest, andC_none,
    Option.bind, eqSs_cons, eqSs_nil, eqS_int, eqS_str, spl_one, List.set, List.take, List.drop, List.append, List.cons_append, List.nil_append, List.append_nil, List.length_nil, List.length_cons, if_true, if_false, ↓reduceIte, decide_true, decide_false, Bool.not_true, Bool.not_false, Bool.true_and, Bool.and_true, Nat.zero_add, Nat.reduceAdd, Int.reduceAdd, Int.reduceToNat, Int.zero_add, List.getD_cons_zero, List.getD_cons_succ, Nat.reduceEqDiff, Nat.reduceLeDiff, andC_some, and_self, and_true, true_and]
  simp (decide := true) only [rest, Try.m21_6_eq, Try.m38_eq, Try.m21_16_eq, Try.m21_19_eq, Try.m21_21_eq, Try.m21_23_eq, Try.m21_27_eq, Try.m21_32_eq, Try.m21_35_eq, Try.m21_39_eq, Try.m21_43_eq, okR, List.all_nil, List.all_cons, len_nil,
    Option.bind, eqSs_cons, eqSs_nil, eqS_int, eqS_str, spl_one, List.set, List.take, List.drop, List.append, List.cons_append, List.nil_append, List.append_nil, List.length_nil, List.length_cons, if_true, if_false, ↓reduceIte, decide_true, decide_false, Bool.not_true, Bool.not_false, Bool.true_and, Bool.and_true, Nat.zero_add, Nat.reduceAdd, Int.reduceAdd, Int.reduceToNat, Int.zero_add, List.getD_cons_zero, List.getD_cons_succ, Nat.reduceEqDiff, Nat.reduceLeDiff, andC_some, and_self, and_true, true_and]
  generalize (decide (op = 0) && (decide (a = 0) && (decide (b = 0) && (decide (a5 = 0) && (decide (to_ = 0) && decide (else_ = -1)))))) = E
  generalize ((decide (0 ≤ a0) && decide (a0 < f.regs)) && ((decide (0 ≤ a1) && decide (a1 < f.regs)) && ((decide (0 ≤ a2) && decide (a2 < f.regs)) && ((decide (0 ≤ a3) && decide (a3 < f.regs)) && (decide (0 ≤ a4) && decide (a4 < f.regs)))))) = R
  generalize decide (text = []) = T
  by_cases d3 : dst = -1
  · subst d3
    have hr' : ¬ f.regs ≤ -1 := by omega
    simp (decide := true) only [hr', lt_not, Bool.not_true, Bool.not_false, Bool.false_and, if_true, if_false, ↓reduceIte, Option.bind, decide_false]
    cases E <;> cases R <;> cases T <;> exact ⟨_, rfl, rfl⟩
  · simp only [d3, lt_not, decide_false]
    generalize decide (0 ≤ dst) = x0; generalize decide (f.regs ≤ dst) = x1; cases E <;> cases R <;> cases T <;> cases x0 <;> cases x1 <;> exact ⟨_, rfl, rfl⟩
set_option linter.unusedSimpArgs false in
theorem both_8_6 (op dst a b : Int) (text : List UInt8) (a0 a1 a2 a3 a4 a5 to_ else_ : Int) (f : En.Dop.Fnc) (hr : 0 ≤ f.regs) : Both ⟨8, op, dst, a, b, 6, text, a0, a1, a2, a3, a4, a5, to_, else_⟩ f := by
  unfold Both
  simp (decide := true) only [Try.m20_eq, Try.m32_eq, Try.m43_eq, Try.m43_9_eq, Try.m18_eq, Try.m29_eq, Try.m32_9_eq, Try.m32_16_eq, Try.m32_18_eq, m30_v, Try.m34_eq, m33_v, Try.m21_eq, Try.m37_eq, Try.m37_5_eq, Try.m37_9_eq, m21_rest, andC_none,
    Option.bind, eqSs_cons, eqSs_nil, eqS_int, eqS_str, spl_one, List.set, List.take, List.drop, List.append, List.cons_append, List.nil_append, List.append_nil, List.length_nil, List.length_cons, if_true, if_false, ↓reduceIte, decide_true, decide_false, Bool.not_true, Bool.not_false, Bool.true_and, Bool.and_true, Nat.zero_add, Nat.reduceAdd, Int.reduceAdd, Int.reduceToNat, Int.zero_add, List.getD_cons_zero, List.getD_cons_succ, Nat.reduceEqDiff, Nat.reduceLeDiff, andC_some, and_self, and_true, true_and]
  simp (decide := true) only [rest, Try.m21_6_eq, Try.m38_eq, Try.m21_16_eq, Try.m21_19_eq, Try.m21_21_eq, Try.m21_23_eq, Try.m21_27_eq, Try.m21_32_eq, Try.m21_35_eq, Try.m21_39_eq, Try.m21_43_eq, okR, List.all_nil, List.all_cons, len_nil,
    Option.bind, eqSs_cons, eqSs_nil, eqS_int, eqS_str, spl_one, List.set, List.take, List.drop, List.append, List.cons_append, List.nil_append, List.append_nil, List.length_nil, List.length_cons, if_true, if_false, ↓reduceIte, decide_true, decide_false, Bool.not_true, Bool.not_false, Bool.true_and, Bool.and_true, Nat.zero_add, Nat.reduceAdd, Int.reduceAdd, Int.reduceToNat, Int.zero_add, List.getD_cons_zero, List.getD_cons_succ, Nat.reduceEqDiff, Nat.reduceLeDiff, andC_some, and_self, and_true, true_and]
  generalize (decide (op = 0) && (decide (a = 0) && (decide (b = 0) && (decide (to_ = 0) && decide (else_ = -1))))) = E
  generalize ((decide (0 ≤ a0) && decide (a0 < f.regs)) && ((decide (0 ≤ a1) && decide (a1 < f.regs)) && ((decide (0 ≤ a2) && decide (a2 < f.regs)) && ((decide (0 ≤ a3) && decide (a3 < f.regs)) && ((decide (0 ≤ a4) && decide (a4 < f.regs)) && (decide (0 ≤ a5) && decide (a5 < f.regs))))))) = R
  generalize decide (text = []) = T
  by_cases d3 : dst = -1
  · subst d3
    have hr' : ¬ f.regs ≤ -1 := by omega
    simp (decide := true) only [hr', lt_not, Bool.not_true, Bool.not_false, Bool.false_and, if_true, if_false, ↓reduceIte, Option.bind, decide_false]
    cases E <;> cases R <;> cases T <;> exact ⟨_, rfl, rfl⟩
  · simp only [d3, lt_not, decide_false]
    generalize decide (0 ≤ dst) = x0; generalize decide (f.regs ≤ dst) = x1; cases E <;> cases R <;> cases T <;> cases x0 <;> cases x1 <;> exact ⟨_, rfl, rfl⟩
set_option linter.unusedSimpArgs false in
theorem both_8_neg (op dst a b n : Int) (text : List UInt8) (a0 a1 a2 a3 a4 a5 to_ else_ : Int) (f : En.Dop.Fnc) (hr : 0 ≤ f.regs) (h1 : n < 0) : Both ⟨8, op, dst, a, b, n, text, a0, a1, a2, a3, a4, a5, to_, else_⟩ f := by
  have h1 : n < 0 := h1
  have h2 : ¬ 0 < n := by omega
  have h3 : ¬ 0 ≤ n := by omega
  unfold Both
  simp (decide := true) only [Try.m20_eq, Try.m32_eq, Try.m43_eq, Try.m43_9_eq, Try.m18_eq, Try.m29_eq, Try.m32_9_eq, Try.m32_16_eq, Try.m32_18_eq, m30_v, Try.m34_eq, m33_v, Try.m21_eq, Try.m37_eq, Try.m37_5_eq, Try.m37_9_eq, m21_rest, andC_none,
    Option.bind, eqSs_cons, eqSs_nil, eqS_int, eqS_str, spl_one, List.set, List.take, List.drop, List.append, List.cons_append, List.nil_append, List.append_nil, List.length_nil, List.length_cons, if_true, if_false, ↓reduceIte, decide_true, decide_false, Bool.not_true, Bool.not_false, Bool.true_and, Bool.and_true, Nat.zero_add, Nat.reduceAdd, Int.reduceAdd, Int.reduceToNat, Int.zero_add, List.getD_cons_zero, List.getD_cons_succ, Nat.reduceEqDiff, Nat.reduceLeDiff, andC_some, and_self, and_true, true_and, h1, h2, h3]
  simp (decide := true) only [rest, Try.m21_6_eq, Try.m38_eq, Try.m21_16_eq, Try.m21_19_eq, Try.m21_21_eq, Try.m21_23_eq, Try.m21_27_eq, Try.m21_32_eq, Try.m21_35_eq, Try.m21_39_eq, Try.m21_43_eq, okR, List.all_nil, List.all_cons, len_nil,
    Option.bind, eqSs_cons, eqSs_nil, eqS_int, eqS_str, spl_one, List.set, List.take, List.drop, List.append, List.cons_append, List.nil_append, List.append_nil, List.length_nil, List.length_cons, if_true, if_false, ↓reduceIte, decide_true, decide_false, Bool.not_true, Bool.not_false, Bool.true_and, Bool.and_true, Nat.zero_add, Nat.reduceAdd, Int.reduceAdd, Int.reduceToNat, Int.zero_add, List.getD_cons_zero, List.getD_cons_succ, Nat.reduceEqDiff, Nat.reduceLeDiff, andC_some, and_self, and_true, true_and, h1, h2, h3]
  generalize (decide (op = 0) && (decide (a = 0) && (decide (b = 0) && (decide (a0 = 0) && (decide (a1 = 0) && (decide (a2 = 0) && (decide (a3 = 0) && (decide (a4 = 0) && (decide (a5 = 0) && (decide (to_ = 0) && decide (else_ = -1))))))))))) = E
  generalize decide (text = []) = T
  by_cases d3 : dst = -1
  · subst d3
    have hr' : ¬ f.regs ≤ -1 := by omega
    simp (decide := true) only [hr', lt_not, Bool.not_true, Bool.not_false, Bool.false_and, if_true, if_false, ↓reduceIte, Option.bind, decide_false]
    cases E <;> cases T <;> exact ⟨_, rfl, rfl⟩
  · simp only [d3, lt_not, decide_false]
    generalize decide (0 ≤ dst) = x0; generalize decide (f.regs ≤ dst) = x1; cases E <;> cases T <;> cases x0 <;> cases x1 <;> exact ⟨_, rfl, rfl⟩
set_option linter.unusedSimpArgs false in
theorem both_8_big (op dst a b n : Int) (text : List UInt8) (a0 a1 a2 a3 a4 a5 to_ else_ : Int) (f : En.Dop.Fnc) (hr : 0 ≤ f.regs) (h1 : 6 < n) : Both ⟨8, op, dst, a, b, n, text, a0, a1, a2, a3, a4, a5, to_, else_⟩ f := by
  have h1 : 6 < n := h1
  have h2 : 0 < n := by omega
  have h3 : 1 < n := by omega
  have h4 : 2 < n := by omega
  have h5 : 3 < n := by omega
  have h6 : 4 < n := by omega
  have h7 : 5 < n := by omega
  have h8 : ¬ n < 0 := by omega
  have h9 : ¬ n ≤ 6 := by omega
  have h10 : 0 ≤ n := by omega
  unfold Both
  simp (decide := true) only [Try.m20_eq, Try.m32_eq, Try.m43_eq, Try.m43_9_eq, Try.m18_eq, Try.m29_eq, Try.m32_9_eq, Try.m32_16_eq, Try.m32_18_eq, m30_v, Try.m34_eq, m33_v, Try.m21_eq, Try.m37_eq, Try.m37_5_eq, Try.m37_9_eq, m21_rest, andC_none,
    Option.bind, eqSs_cons, eqSs_nil, eqS_int, eqS_str, spl_one, List.set, List.take, List.drop, List.append, List.cons_append, List.nil_append, List.append_nil, List.length_nil, List.length_cons, if_true, if_false, ↓reduceIte, decide_true, decide_false, Bool.not_true, Bool.not_false, Bool.true_and, Bool.and_true, Nat.zero_add, Nat.reduceAdd, Int.reduceAdd, Int.reduceToNat, Int.zero_add, List.getD_cons_zero, List.getD_cons_succ, Nat.reduceEqDiff, Nat.reduceLeDiff, andC_some, and_self, and_true, true_and, h1, h2, h3, h4, h5, h6, h7, h8, h9, h10]
  simp (decide := true) only [rest, Try.m21_6_eq, Try.m38_eq, Try.m21_16_eq, Try.m21_19_eq, Try.m21_21_eq, Try.m21_23_eq, Try.m21_27_eq, Try.m21_32_eq, Try.m21_35_eq, Try.m21_39_eq, Try.m21_43_eq, okR, List.all_nil, List.all_cons, len_nil,
    Option.bind, eqSs_cons, eqSs_nil, eqS_int, eqS_str, spl_one, List.set, List.take, List.drop, List.append, List.cons_append, List.nil_append, List.append_nil, List.length_nil, List.length_cons, if_true, if_false, ↓reduceIte, decide_true, decide_false, Bool.not_true, Bool.not_false, Bool.true_and, Bool.and_true, Nat.zero_add, Nat.reduceAdd, Int.reduceAdd, Int.reduceToNat, Int.zero_add, List.getD_cons_zero, List.getD_cons_succ, Nat.reduceEqDiff, Nat.reduceLeDiff, andC_some, and_self, and_true, true_and, h1, h2, h3, h4, h5, h6, h7, h8, h9, h10]
  generalize (decide (op = 0) && (decide (a = 0) && (decide (b = 0) && (decide (to_ = 0) && decide (else_ = -1))))) = E
  generalize ((decide (0 ≤ a0) && decide (a0 < f.regs)) && ((decide (0 ≤ a1) && decide (a1 < f.regs)) && ((decide (0 ≤ a2) && decide (a2 < f.regs)) && ((decide (0 ≤ a3) && decide (a3 < f.regs)) && ((decide (0 ≤ a4) && decide (a4 < f.regs)) && (decide (0 ≤ a5) && decide (a5 < f.regs))))))) = R
  generalize decide (text = []) = T
  by_cases d3 : dst = -1
  · subst d3
    have hr' : ¬ f.regs ≤ -1 := by omega
    simp (decide := true) only [hr', lt_not, Bool.not_true, Bool.not_false, Bool.false_and, if_true, if_false, ↓reduceIte, Option.bind, decide_false]
    cases E <;> cases R <;> cases T <;> exact ⟨_, rfl, rfl⟩
  · simp only [d3, lt_not, decide_false]
    generalize decide (0 ≤ dst) = x0; generalize decide (f.regs ≤ dst) = x1; cases E <;> cases R <;> cases T <;> cases x0 <;> cases x1 <;> exact ⟨_, rfl, rfl⟩
set_option linter.unusedSimpArgs false in
theorem both_8 (op dst a b n : Int) (text : List UInt8) (a0 a1 a2 a3 a4 a5 to_ else_ : Int) (f : En.Dop.Fnc) (hr : 0 ≤ f.regs) : Both ⟨8, op, dst, a, b, n, text, a0, a1, a2, a3, a4, a5, to_, else_⟩ f := by
  by_cases h1 : n < 0
  · exact both_8_neg op dst a b n text a0 a1 a2 a3 a4 a5 to_ else_ f hr h1
  by_cases h2 : 6 < n
  · exact both_8_big op dst a b n text a0 a1 a2 a3 a4 a5 to_ else_ f hr h2
  have : n = 0 ∨ n = 1 ∨ n = 2 ∨ n = 3 ∨ n = 4 ∨ n = 5 ∨ n = 6 := by omega
  rcases this with rfl | rfl | rfl | rfl | rfl | rfl | rfl
  · exact both_8_0 op dst a b text a0 a1 a2 a3 a4 a5 to_ else_ f hr
  · exact both_8_1 op dst a b text a0 a1 a2 a3 a4 a5 to_ else_ f hr
  · exact both_8_2 op dst a b text a0 a1 a2 a3 a4 a5 to_ else_ f hr
  · exact both_8_3 op dst a b text a0 a1 a2 a3 a4 a5 to_ else_ f hr
  · exact both_8_4 op dst a b text a0 a1 a2 a3 a4 a5 to_ else_ f hr
  · exact both_8_5 op dst a b text a0 a1 a2 a3 a4 a5 to_ else_ f hr
  · exact both_8_6 op dst a b text a0 a1 a2 a3 a4 a5 to_ else_ f hr
set_option linter.unusedSimpArgs false in
/-- WHETHER AN INSTRUCTION MAY BE: both answers are there, and are one. -/
theorem both (i : En.Dop.Ins) (f : En.Dop.Fnc) (hr : 0 ≤ f.regs) : Both i f := by
  obtain ⟨k, op, dst, a, b, n, text, a0, a1, a2, a3, a4, a5, to_, else_⟩ := i
  by_cases h1 : k < 1
  · refine ⟨false, ?_, ?_⟩
    · rw [Try.m20_eq]; simp only [h1, decide_true, if_true]
    · rw [Try.m21_eq]; simp only [h1, decide_true, if_true]
  by_cases h2 : 13 < k
  · refine ⟨false, ?_, ?_⟩
    · rw [Try.m20_eq]; simp only [h1, h2, decide_true, decide_false, Bool.false_eq_true, if_true, if_false]
    · rw [Try.m21_eq]; simp only [h1, h2, decide_true, decide_false, Bool.false_eq_true, if_true, if_false]
  have : k = 1 ∨ k = 2 ∨ k = 3 ∨ k = 4 ∨ k = 5 ∨ k = 6 ∨ k = 7 ∨ k = 8 ∨ k = 9 ∨ k = 10 ∨ k = 11 ∨ k = 12 ∨ k = 13 := by omega
  rcases this with rfl | rfl | rfl | rfl | rfl | rfl | rfl | rfl | rfl | rfl | rfl | rfl | rfl
  · exact both_1 op dst a b n text a0 a1 a2 a3 a4 a5 to_ else_ f
  · exact both_2 op dst a b n text a0 a1 a2 a3 a4 a5 to_ else_ f
  · exact both_3 op dst a b n text a0 a1 a2 a3 a4 a5 to_ else_ f
  · exact both_4 op dst a b n text a0 a1 a2 a3 a4 a5 to_ else_ f
  · exact both_5 op dst a b n text a0 a1 a2 a3 a4 a5 to_ else_ f
  · exact both_6 op dst a b n text a0 a1 a2 a3 a4 a5 to_ else_ f
  · exact both_7 op dst a b n text a0 a1 a2 a3 a4 a5 to_ else_ f
  · exact both_8 op dst a b n text a0 a1 a2 a3 a4 a5 to_ else_ f hr
  · exact both_9 op dst a b n text a0 a1 a2 a3 a4 a5 to_ else_ f
  · exact both_10 op dst a b n text a0 a1 a2 a3 a4 a5 to_ else_ f
  · exact both_11 op dst a b n text a0 a1 a2 a3 a4 a5 to_ else_ f
  · exact both_12 op dst a b n text a0 a1 a2 a3 a4 a5 to_ else_ f
  · exact both_13 op dst a b n text a0 a1 a2 a3 a4 a5 to_ else_ f
end Go.Proofs.Law
