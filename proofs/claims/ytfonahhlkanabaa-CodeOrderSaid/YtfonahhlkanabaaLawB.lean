/-
  Layer 7, plain: whether an instruction may be, kind by kind.
-/
import Derived.Test.YtfonahhlkanabaaLawA
set_option maxRecDepth 20000
namespace Go.Proofs.Law
open Go Go.En Go.Proofs

set_option linter.unusedSimpArgs false in
theorem lt_not (x y : Int) : decide (x < y) = !decide (y ≤ x) := by
  by_cases h : y ≤ x
  · have : ¬ x < y := by omega
    simp [h, this]
  · have : x < y := by omega
    simp [h, this]
set_option linter.unusedSimpArgs false in
theorem m31_v (n : Int) (b : En.Dop.Fnc) : Try.m31 n b = some ((decide (0 ≤ n) && decide (n < I b.code.length), ()), ((b, ()), ())) := by
  rw [Try.m31_eq]
  by_cases h : (0 : Int) ≤ n
  · simp only [h, decide_true, if_true, Bool.true_and]; try rfl
  · simp only [h, decide_false, Bool.false_eq_true, if_false, Bool.false_and]; try rfl
/-- Both answers are there, and are one. -/
def Both (i : En.Dop.Ins) (f : En.Dop.Fnc) : Prop := ∃ r, Try.m20 i f = some ((r, ()), ()) ∧ Try.m21 i f = some ((r, ()), ())
set_option linter.unusedSimpArgs false in
theorem both_1 (op dst a b n : Int) (text : List UInt8) (a0 a1 a2 a3 a4 a5 to_ else_ : Int) (f : En.Dop.Fnc) : Both ⟨1, op, dst, a, b, n, text, a0, a1, a2, a3, a4, a5, to_, else_⟩ f := by
  unfold Both
  simp (decide := true) only [Try.m20_eq, Try.m32_eq, Try.m43_eq, Try.m43_9_eq, Try.m18_eq, Try.m29_eq, Try.m32_9_eq, Try.m32_16_eq, m30_v, Try.m34_eq, m33_v, m22_v, Try.m35_eq, Try.m36_eq, m31_v,
    Try.m21_eq, Try.m37_eq, Try.m37_5_eq, m21_rest, andC_none, room_1, room_2, room_3,
    Option.bind, eqSs_cons, eqSs_nil, eqS_int, eqS_str, spl_one, List.set, List.take, List.drop, List.append, List.cons_append, List.nil_append, List.append_nil, List.length_nil, List.length_cons, if_true, if_false, ↓reduceIte, decide_true, decide_false, Bool.not_true, Bool.not_false, Bool.true_and, Bool.and_true, Nat.zero_add, Nat.reduceAdd]
  simp (decide := true) only [rest, Try.m21_6_eq, Try.m38_eq, Try.m21_16_eq, Try.m21_19_eq, Try.m21_21_eq, Try.m21_23_eq, Try.m21_27_eq, Try.m21_35_eq, Try.m21_39_eq, Try.m21_43_eq, m23_v, okR, List.all_nil, List.all_cons,
    Option.bind, eqSs_cons, eqSs_nil, eqS_int, eqS_str, spl_one, List.set, List.take, List.drop, List.append, List.cons_append, List.nil_append, List.append_nil, List.length_nil, List.length_cons, if_true, if_false, ↓reduceIte, decide_true, decide_false, Bool.not_true, Bool.not_false, Bool.true_and, Bool.and_true, Nat.zero_add, Nat.reduceAdd]
  generalize (decide (op = 0) && (decide (a = 0) && (decide (b = 0) && (decide (text = []) && (decide (a0 = 0) && (decide (a1 = 0) && (decide (a2 = 0) && (decide (a3 = 0) && (decide (a4 = 0) && (decide (a5 = 0) && (decide (to_ = 0) && decide (else_ = -1)))))))))))) = E
  by_cases d3 : dst = -1
  · subst d3
    simp (decide := true) only [lt_not, Bool.not_true, Bool.not_false, Bool.false_and, if_true, if_false, ↓reduceIte, Option.bind]
    cases E <;> exact ⟨_, rfl, rfl⟩
  · simp only [d3, lt_not, decide_false]
    generalize decide (0 ≤ dst) = x0; generalize decide (f.regs ≤ dst) = x1; generalize decide (-2147483648 ≤ n) = x2; generalize decide (n ≤ 2147483647) = x3; cases E <;> cases x0 <;> cases x1 <;> cases x2 <;> cases x3 <;> exact ⟨_, rfl, rfl⟩
set_option linter.unusedSimpArgs false in
theorem both_2 (op dst a b n : Int) (text : List UInt8) (a0 a1 a2 a3 a4 a5 to_ else_ : Int) (f : En.Dop.Fnc) : Both ⟨2, op, dst, a, b, n, text, a0, a1, a2, a3, a4, a5, to_, else_⟩ f := by
  unfold Both
  simp (decide := true) only [Try.m20_eq, Try.m32_eq, Try.m43_eq, Try.m43_9_eq, Try.m18_eq, Try.m29_eq, Try.m32_9_eq, Try.m32_16_eq, m30_v, Try.m34_eq, m33_v, m22_v, Try.m35_eq, Try.m36_eq, m31_v,
    Try.m21_eq, Try.m37_eq, Try.m37_5_eq, m21_rest, andC_none, room_1, room_2, room_3,
    Option.bind, eqSs_cons, eqSs_nil, eqS_int, eqS_str, spl_one, List.set, List.take, List.drop, List.append, List.cons_append, List.nil_append, List.append_nil, List.length_nil, List.length_cons, if_true, if_false, ↓reduceIte, decide_true, decide_false, Bool.not_true, Bool.not_false, Bool.true_and, Bool.and_true, Nat.zero_add, Nat.reduceAdd]
  simp (decide := true) only [rest, Try.m21_6_eq, Try.m38_eq, Try.m21_16_eq, Try.m21_19_eq, Try.m21_21_eq, Try.m21_23_eq, Try.m21_27_eq, Try.m21_35_eq, Try.m21_39_eq, Try.m21_43_eq, m23_v, okR, List.all_nil, List.all_cons,
    Option.bind, eqSs_cons, eqSs_nil, eqS_int, eqS_str, spl_one, List.set, List.take, List.drop, List.append, List.cons_append, List.nil_append, List.append_nil, List.length_nil, List.length_cons, if_true, if_false, ↓reduceIte, decide_true, decide_false, Bool.not_true, Bool.not_false, Bool.true_and, Bool.and_true, Nat.zero_add, Nat.reduceAdd]
  generalize (decide (b = 0) && (decide (n = 0) && (decide (text = []) && (decide (a0 = 0) && (decide (a1 = 0) && (decide (a2 = 0) && (decide (a3 = 0) && (decide (a4 = 0) && (decide (a5 = 0) && (decide (to_ = 0) && decide (else_ = -1))))))))))) = E
  by_cases d3 : dst = -1
  · subst d3
    simp (decide := true) only [lt_not, Bool.not_true, Bool.not_false, Bool.false_and, if_true, if_false, ↓reduceIte, Option.bind]
    generalize decide (0 ≤ a) = x0; generalize decide (f.regs ≤ a) = x1; generalize decide (20 ≤ op) = x2; generalize decide (op ≤ 23) = x3; cases E <;> cases x0 <;> cases x1 <;> cases x2 <;> cases x3 <;> exact ⟨_, rfl, rfl⟩
  · simp only [d3, lt_not, decide_false]
    generalize decide (0 ≤ dst) = x0; generalize decide (f.regs ≤ dst) = x1; generalize decide (0 ≤ a) = x2; generalize decide (f.regs ≤ a) = x3; generalize decide (20 ≤ op) = x4; generalize decide (op ≤ 23) = x5; cases E <;> cases x0 <;> cases x1 <;> cases x2 <;> cases x3 <;> cases x4 <;> cases x5 <;> exact ⟨_, rfl, rfl⟩
set_option linter.unusedSimpArgs false in
theorem both_3 (op dst a b n : Int) (text : List UInt8) (a0 a1 a2 a3 a4 a5 to_ else_ : Int) (f : En.Dop.Fnc) : Both ⟨3, op, dst, a, b, n, text, a0, a1, a2, a3, a4, a5, to_, else_⟩ f := by
  unfold Both
  simp (decide := true) only [Try.m20_eq, Try.m32_eq, Try.m43_eq, Try.m43_9_eq, Try.m18_eq, Try.m29_eq, Try.m32_9_eq, Try.m32_16_eq, m30_v, Try.m34_eq, m33_v, m22_v, Try.m35_eq, Try.m36_eq, m31_v,
    Try.m21_eq, Try.m37_eq, Try.m37_5_eq, m21_rest, andC_none, room_1, room_2, room_3,
    Option.bind, eqSs_cons, eqSs_nil, eqS_int, eqS_str, spl_one, List.set, List.take, List.drop, List.append, List.cons_append, List.nil_append, List.append_nil, List.length_nil, List.length_cons, if_true, if_false, ↓reduceIte, decide_true, decide_false, Bool.not_true, Bool.not_false, Bool.true_and, Bool.and_true, Nat.zero_add, Nat.reduceAdd]
  simp (decide := true) only [rest, Try.m21_6_eq, Try.m38_eq, Try.m21_16_eq, Try.m21_19_eq, Try.m21_21_eq, Try.m21_23_eq, Try.m21_27_eq, Try.m21_35_eq, Try.m21_39_eq, Try.m21_43_eq, m23_v, okR, List.all_nil, List.all_cons,
    Option.bind, eqSs_cons, eqSs_nil, eqS_int, eqS_str, spl_one, List.set, List.take, List.drop, List.append, List.cons_append, List.nil_append, List.append_nil, List.length_nil, List.length_cons, if_true, if_false, ↓reduceIte, decide_true, decide_false, Bool.not_true, Bool.not_false, Bool.true_and, Bool.and_true, Nat.zero_add, Nat.reduceAdd]
  generalize (decide (n = 0) && (decide (text = []) && (decide (a0 = 0) && (decide (a1 = 0) && (decide (a2 = 0) && (decide (a3 = 0) && (decide (a4 = 0) && (decide (a5 = 0) && (decide (to_ = 0) && decide (else_ = -1)))))))))) = E
  by_cases d3 : dst = -1
  · subst d3
    simp (decide := true) only [lt_not, Bool.not_true, Bool.not_false, Bool.false_and, if_true, if_false, ↓reduceIte, Option.bind]
    generalize decide (0 ≤ a) = x0; generalize decide (f.regs ≤ a) = x1; generalize decide (0 ≤ b) = x2; generalize decide (f.regs ≤ b) = x3; generalize decide (1 ≤ op) = x4; generalize decide (op ≤ 19) = x5; cases E <;> cases x0 <;> cases x1 <;> cases x2 <;> cases x3 <;> cases x4 <;> cases x5 <;> exact ⟨_, rfl, rfl⟩
  · simp only [d3, lt_not, decide_false]
    generalize decide (0 ≤ dst) = x0; generalize decide (f.regs ≤ dst) = x1; generalize decide (0 ≤ a) = x2; generalize decide (f.regs ≤ a) = x3; generalize decide (0 ≤ b) = x4; generalize decide (f.regs ≤ b) = x5; generalize decide (1 ≤ op) = x6; generalize decide (op ≤ 19) = x7; cases E <;> cases x0 <;> cases x1 <;> cases x2 <;> cases x3 <;> cases x4 <;> cases x5 <;> cases x6 <;> cases x7 <;> exact ⟨_, rfl, rfl⟩
set_option linter.unusedSimpArgs false in
theorem both_4 (op dst a b n : Int) (text : List UInt8) (a0 a1 a2 a3 a4 a5 to_ else_ : Int) (f : En.Dop.Fnc) : Both ⟨4, op, dst, a, b, n, text, a0, a1, a2, a3, a4, a5, to_, else_⟩ f := by
  unfold Both
  simp (decide := true) only [Try.m20_eq, Try.m32_eq, Try.m43_eq, Try.m43_9_eq, Try.m18_eq, Try.m29_eq, Try.m32_9_eq, Try.m32_16_eq, m30_v, Try.m34_eq, m33_v, m22_v, Try.m35_eq, Try.m36_eq, m31_v,
    Try.m21_eq, Try.m37_eq, Try.m37_5_eq, m21_rest, andC_none, room_1, room_2, room_3,
    Option.bind, eqSs_cons, eqSs_nil, eqS_int, eqS_str, spl_one, List.set, List.take, List.drop, List.append, List.cons_append, List.nil_append, List.append_nil, List.length_nil, List.length_cons, if_true, if_false, ↓reduceIte, decide_true, decide_false, Bool.not_true, Bool.not_false, Bool.true_and, Bool.and_true, Nat.zero_add, Nat.reduceAdd]
  simp (decide := true) only [rest, Try.m21_6_eq, Try.m38_eq, Try.m21_16_eq, Try.m21_19_eq, Try.m21_21_eq, Try.m21_23_eq, Try.m21_27_eq, Try.m21_35_eq, Try.m21_39_eq, Try.m21_43_eq, m23_v, okR, List.all_nil, List.all_cons,
    Option.bind, eqSs_cons, eqSs_nil, eqS_int, eqS_str, spl_one, List.set, List.take, List.drop, List.append, List.cons_append, List.nil_append, List.append_nil, List.length_nil, List.length_cons, if_true, if_false, ↓reduceIte, decide_true, decide_false, Bool.not_true, Bool.not_false, Bool.true_and, Bool.and_true, Nat.zero_add, Nat.reduceAdd]
  generalize (decide (op = 0) && (decide (b = 0) && (decide (n = 0) && (decide (text = []) && (decide (a0 = 0) && (decide (a1 = 0) && (decide (a2 = 0) && (decide (a3 = 0) && (decide (a4 = 0) && (decide (a5 = 0) && (decide (to_ = 0) && decide (else_ = -1)))))))))))) = E
  by_cases d3 : dst = -1
  · subst d3
    simp (decide := true) only [lt_not, Bool.not_true, Bool.not_false, Bool.false_and, if_true, if_false, ↓reduceIte, Option.bind]
    generalize decide (0 ≤ a) = x0; generalize decide (f.regs ≤ a) = x1; cases E <;> cases x0 <;> cases x1 <;> exact ⟨_, rfl, rfl⟩
  · simp only [d3, lt_not, decide_false]
    generalize decide (0 ≤ dst) = x0; generalize decide (f.regs ≤ dst) = x1; generalize decide (0 ≤ a) = x2; generalize decide (f.regs ≤ a) = x3; cases E <;> cases x0 <;> cases x1 <;> cases x2 <;> cases x3 <;> exact ⟨_, rfl, rfl⟩
set_option linter.unusedSimpArgs false in
theorem both_5 (op dst a b n : Int) (text : List UInt8) (a0 a1 a2 a3 a4 a5 to_ else_ : Int) (f : En.Dop.Fnc) : Both ⟨5, op, dst, a, b, n, text, a0, a1, a2, a3, a4, a5, to_, else_⟩ f := by
  unfold Both
  simp (decide := true) only [Try.m20_eq, Try.m32_eq, Try.m43_eq, Try.m43_9_eq, Try.m18_eq, Try.m29_eq, Try.m32_9_eq, Try.m32_16_eq, m30_v, Try.m34_eq, m33_v, m22_v, Try.m35_eq, Try.m36_eq, m31_v,
    Try.m21_eq, Try.m37_eq, Try.m37_5_eq, m21_rest, andC_none, room_1, room_2, room_3,
    Option.bind, eqSs_cons, eqSs_nil, eqS_int, eqS_str, spl_one, List.set, List.take, List.drop, List.append, List.cons_append, List.nil_append, List.append_nil, List.length_nil, List.length_cons, if_true, if_false, ↓reduceIte, decide_true, decide_false, Bool.not_true, Bool.not_false, Bool.true_and, Bool.and_true, Nat.zero_add, Nat.reduceAdd]
  simp (decide := true) only [rest, Try.m21_6_eq, Try.m38_eq, Try.m21_16_eq, Try.m21_19_eq, Try.m21_21_eq, Try.m21_23_eq, Try.m21_27_eq, Try.m21_35_eq, Try.m21_39_eq, Try.m21_43_eq, m23_v, okR, List.all_nil, List.all_cons,
    Option.bind, eqSs_cons, eqSs_nil, eqS_int, eqS_str, spl_one, List.set, List.take, List.drop, List.append, List.cons_append, List.nil_append, List.append_nil, List.length_nil, List.length_cons, if_true, if_false, ↓reduceIte, decide_true, decide_false, Bool.not_true, Bool.not_false, Bool.true_and, Bool.and_true, Nat.zero_add, Nat.reduceAdd]
  generalize (decide (op = 0) && (decide (a = 0) && (decide (b = 0) && (decide (text = []) && (decide (a0 = 0) && (decide (a1 = 0) && (decide (a2 = 0) && (decide (a3 = 0) && (decide (a4 = 0) && (decide (a5 = 0) && (decide (to_ = 0) && decide (else_ = -1)))))))))))) = E
  by_cases d3 : dst = -1
  · subst d3
    simp (decide := true) only [lt_not, Bool.not_true, Bool.not_false, Bool.false_and, if_true, if_false, ↓reduceIte, Option.bind]
    cases E <;> exact ⟨_, rfl, rfl⟩
  · simp only [d3, lt_not, decide_false]
    generalize decide (0 ≤ dst) = x0; generalize decide (f.regs ≤ dst) = x1; generalize decide (0 ≤ n) = x2; generalize decide (n ≤ f.frame) = x3; cases E <;> cases x0 <;> cases x1 <;> cases x2 <;> cases x3 <;> exact ⟨_, rfl, rfl⟩
set_option linter.unusedSimpArgs false in
theorem both_6 (op dst a b n : Int) (text : List UInt8) (a0 a1 a2 a3 a4 a5 to_ else_ : Int) (f : En.Dop.Fnc) : Both ⟨6, op, dst, a, b, n, text, a0, a1, a2, a3, a4, a5, to_, else_⟩ f := by
  unfold Both
  simp (decide := true) only [Try.m20_eq, Try.m32_eq, Try.m43_eq, Try.m43_9_eq, Try.m18_eq, Try.m29_eq, Try.m32_9_eq, Try.m32_16_eq, m30_v, Try.m34_eq, m33_v, m22_v, Try.m35_eq, Try.m36_eq, m31_v,
    Try.m21_eq, Try.m37_eq, Try.m37_5_eq, m21_rest, andC_none, room_1, room_2, room_3,
    Option.bind, eqSs_cons, eqSs_nil, eqS_int, eqS_str, spl_one, List.set, List.take, List.drop, List.append, List.cons_append, List.nil_append, List.append_nil, List.length_nil, List.length_cons, if_true, if_false, ↓reduceIte, decide_true, decide_false, Bool.not_true, Bool.not_false, Bool.true_and, Bool.and_true, Nat.zero_add, Nat.reduceAdd]
  simp (decide := true) only [rest, Try.m21_6_eq, Try.m38_eq, Try.m21_16_eq, Try.m21_19_eq, Try.m21_21_eq, Try.m21_23_eq, Try.m21_27_eq, Try.m21_35_eq, Try.m21_39_eq, Try.m21_43_eq, m23_v, okR, List.all_nil, List.all_cons,
    Option.bind, eqSs_cons, eqSs_nil, eqS_int, eqS_str, spl_one, List.set, List.take, List.drop, List.append, List.cons_append, List.nil_append, List.append_nil, List.length_nil, List.length_cons, if_true, if_false, ↓reduceIte, decide_true, decide_false, Bool.not_true, Bool.not_false, Bool.true_and, Bool.and_true, Nat.zero_add, Nat.reduceAdd]
  generalize (decide (op = 0) && (decide (b = 0) && (decide (n = 0) && (decide (text = []) && (decide (a0 = 0) && (decide (a1 = 0) && (decide (a2 = 0) && (decide (a3 = 0) && (decide (a4 = 0) && (decide (a5 = 0) && (decide (to_ = 0) && decide (else_ = -1)))))))))))) = E
  by_cases d3 : dst = -1
  · subst d3
    simp (decide := true) only [lt_not, Bool.not_true, Bool.not_false, Bool.false_and, if_true, if_false, ↓reduceIte, Option.bind]
    generalize decide (0 ≤ a) = x0; generalize decide (f.regs ≤ a) = x1; cases E <;> cases x0 <;> cases x1 <;> exact ⟨_, rfl, rfl⟩
  · simp only [d3, lt_not, decide_false]
    generalize decide (0 ≤ dst) = x0; generalize decide (f.regs ≤ dst) = x1; generalize decide (0 ≤ a) = x2; generalize decide (f.regs ≤ a) = x3; cases E <;> cases x0 <;> cases x1 <;> cases x2 <;> cases x3 <;> exact ⟨_, rfl, rfl⟩
set_option linter.unusedSimpArgs false in
theorem both_7 (op dst a b n : Int) (text : List UInt8) (a0 a1 a2 a3 a4 a5 to_ else_ : Int) (f : En.Dop.Fnc) : Both ⟨7, op, dst, a, b, n, text, a0, a1, a2, a3, a4, a5, to_, else_⟩ f := by
  unfold Both
  simp (decide := true) only [Try.m20_eq, Try.m32_eq, Try.m43_eq, Try.m43_9_eq, Try.m18_eq, Try.m29_eq, Try.m32_9_eq, Try.m32_16_eq, m30_v, Try.m34_eq, m33_v, m22_v, Try.m35_eq, Try.m36_eq, m31_v,
    Try.m21_eq, Try.m37_eq, Try.m37_5_eq, m21_rest, andC_none, room_1, room_2, room_3,
    Option.bind, eqSs_cons, eqSs_nil, eqS_int, eqS_str, spl_one, List.set, List.take, List.drop, List.append, List.cons_append, List.nil_append, List.append_nil, List.length_nil, List.length_cons, if_true, if_false, ↓reduceIte, decide_true, decide_false, Bool.not_true, Bool.not_false, Bool.true_and, Bool.and_true, Nat.zero_add, Nat.reduceAdd]
  simp (decide := true) only [rest, Try.m21_6_eq, Try.m38_eq, Try.m21_16_eq, Try.m21_19_eq, Try.m21_21_eq, Try.m21_23_eq, Try.m21_27_eq, Try.m21_35_eq, Try.m21_39_eq, Try.m21_43_eq, m23_v, okR, List.all_nil, List.all_cons,
    Option.bind, eqSs_cons, eqSs_nil, eqS_int, eqS_str, spl_one, List.set, List.take, List.drop, List.append, List.cons_append, List.nil_append, List.append_nil, List.length_nil, List.length_cons, if_true, if_false, ↓reduceIte, decide_true, decide_false, Bool.not_true, Bool.not_false, Bool.true_and, Bool.and_true, Nat.zero_add, Nat.reduceAdd]
  generalize (decide (op = 0) && (decide (dst = -1) && (decide (n = 0) && (decide (text = []) && (decide (a0 = 0) && (decide (a1 = 0) && (decide (a2 = 0) && (decide (a3 = 0) && (decide (a4 = 0) && (decide (a5 = 0) && (decide (to_ = 0) && decide (else_ = -1)))))))))))) = E
  simp only [lt_not]
  generalize decide (0 ≤ a) = x0; generalize decide (f.regs ≤ a) = x1; generalize decide (0 ≤ b) = x2; generalize decide (f.regs ≤ b) = x3; cases E <;> cases x0 <;> cases x1 <;> cases x2 <;> cases x3 <;> exact ⟨_, rfl, rfl⟩
set_option linter.unusedSimpArgs false in
theorem both_9 (op dst a b n : Int) (text : List UInt8) (a0 a1 a2 a3 a4 a5 to_ else_ : Int) (f : En.Dop.Fnc) : Both ⟨9, op, dst, a, b, n, text, a0, a1, a2, a3, a4, a5, to_, else_⟩ f := by
  unfold Both
  simp (decide := true) only [Try.m20_eq, Try.m32_eq, Try.m43_eq, Try.m43_9_eq, Try.m18_eq, Try.m29_eq, Try.m32_9_eq, Try.m32_16_eq, m30_v, Try.m34_eq, m33_v, m22_v, Try.m35_eq, Try.m36_eq, m31_v,
    Try.m21_eq, Try.m37_eq, Try.m37_5_eq, m21_rest, andC_none, room_1, room_2, room_3,
    Option.bind, eqSs_cons, eqSs_nil, eqS_int, eqS_str, spl_one, List.set, List.take, List.drop, List.append, List.cons_append, List.nil_append, List.append_nil, List.length_nil, List.length_cons, if_true, if_false, ↓reduceIte, decide_true, decide_false, Bool.not_true, Bool.not_false, Bool.true_and, Bool.and_true, Nat.zero_add, Nat.reduceAdd]
  simp (decide := true) only [rest, Try.m21_6_eq, Try.m38_eq, Try.m21_16_eq, Try.m21_19_eq, Try.m21_21_eq, Try.m21_23_eq, Try.m21_27_eq, Try.m21_35_eq, Try.m21_39_eq, Try.m21_43_eq, m23_v, okR, List.all_nil, List.all_cons,
    Option.bind, eqSs_cons, eqSs_nil, eqS_int, eqS_str, spl_one, List.set, List.take, List.drop, List.append, List.cons_append, List.nil_append, List.append_nil, List.length_nil, List.length_cons, if_true, if_false, ↓reduceIte, decide_true, decide_false, Bool.not_true, Bool.not_false, Bool.true_and, Bool.and_true, Nat.zero_add, Nat.reduceAdd]
  generalize (decide (op = 0) && (decide (a = 0) && (decide (b = 0) && (decide (n = 0) && (decide (text = []) && (decide (a0 = 0) && (decide (a1 = 0) && (decide (a2 = 0) && (decide (a3 = 0) && (decide (a4 = 0) && (decide (a5 = 0) && (decide (to_ = 0) && decide (else_ = -1))))))))))))) = E
  by_cases d3 : dst = -1
  · subst d3
    simp (decide := true) only [lt_not, Bool.not_true, Bool.not_false, Bool.false_and, if_true, if_false, ↓reduceIte, Option.bind]
    cases E <;> exact ⟨_, rfl, rfl⟩
  · simp only [d3, lt_not, decide_false]
    generalize decide (0 ≤ dst) = x0; generalize decide (f.regs ≤ dst) = x1; cases E <;> cases x0 <;> cases x1 <;> exact ⟨_, rfl, rfl⟩
set_option linter.unusedSimpArgs false in
theorem both_10 (op dst a b n : Int) (text : List UInt8) (a0 a1 a2 a3 a4 a5 to_ else_ : Int) (f : En.Dop.Fnc) : Both ⟨10, op, dst, a, b, n, text, a0, a1, a2, a3, a4, a5, to_, else_⟩ f := by
  unfold Both
  simp (decide := true) only [Try.m20_eq, Try.m32_eq, Try.m43_eq, Try.m43_9_eq, Try.m18_eq, Try.m29_eq, Try.m32_9_eq, Try.m32_16_eq, m30_v, Try.m34_eq, m33_v, m22_v, Try.m35_eq, Try.m36_eq, m31_v,
    Try.m21_eq, Try.m37_eq, Try.m37_5_eq, m21_rest, andC_none, room_1, room_2, room_3,
    Option.bind, eqSs_cons, eqSs_nil, eqS_int, eqS_str, spl_one, List.set, List.take, List.drop, List.append, List.cons_append, List.nil_append, List.append_nil, List.length_nil, List.length_cons, if_true, if_false, ↓reduceIte, decide_true, decide_false, Bool.not_true, Bool.not_false, Bool.true_and, Bool.and_true, Nat.zero_add, Nat.reduceAdd]
  simp (decide := true) only [rest, Try.m21_6_eq, Try.m38_eq, Try.m21_16_eq, Try.m21_19_eq, Try.m21_21_eq, Try.m21_23_eq, Try.m21_27_eq, Try.m21_35_eq, Try.m21_39_eq, Try.m21_43_eq, m23_v, okR, List.all_nil, List.all_cons,
    Option.bind, eqSs_cons, eqSs_nil, eqS_int, eqS_str, spl_one, List.set, List.take, List.drop, List.append, List.cons_append, List.nil_append, List.append_nil, List.length_nil, List.length_cons, if_true, if_false, ↓reduceIte, decide_true, decide_false, Bool.not_true, Bool.not_false, Bool.true_and, Bool.and_true, Nat.zero_add, Nat.reduceAdd]
  generalize (decide (op = 0) && (decide (dst = -1) && (decide (b = 0) && (decide (n = 0) && (decide (text = []) && (decide (a0 = 0) && (decide (a1 = 0) && (decide (a2 = 0) && (decide (a3 = 0) && (decide (a4 = 0) && (decide (a5 = 0) && (decide (to_ = 0) && decide (else_ = -1))))))))))))) = E
  simp only [lt_not]
  generalize decide (0 ≤ a) = x0; generalize decide (f.regs ≤ a) = x1; cases E <;> cases x0 <;> cases x1 <;> exact ⟨_, rfl, rfl⟩
set_option linter.unusedSimpArgs false in
theorem both_11 (op dst a b n : Int) (text : List UInt8) (a0 a1 a2 a3 a4 a5 to_ else_ : Int) (f : En.Dop.Fnc) : Both ⟨11, op, dst, a, b, n, text, a0, a1, a2, a3, a4, a5, to_, else_⟩ f := by
  unfold Both
  simp (decide := true) only [Try.m20_eq, Try.m32_eq, Try.m43_eq, Try.m43_9_eq, Try.m18_eq, Try.m29_eq, Try.m32_9_eq, Try.m32_16_eq, m30_v, Try.m34_eq, m33_v, m22_v, Try.m35_eq, Try.m36_eq, m31_v,
    Try.m21_eq, Try.m37_eq, Try.m37_5_eq, m21_rest, andC_none, room_1, room_2, room_3,
    Option.bind, eqSs_cons, eqSs_nil, eqS_int, eqS_str, spl_one, List.set, List.take, List.drop, List.append, List.cons_append, List.nil_append, List.append_nil, List.length_nil, List.length_cons, if_true, if_false, ↓reduceIte, decide_true, decide_false, Bool.not_true, Bool.not_false, Bool.true_and, Bool.and_true, Nat.zero_add, Nat.reduceAdd]
  simp (decide := true) only [rest, Try.m21_6_eq, Try.m38_eq, Try.m21_16_eq, Try.m21_19_eq, Try.m21_21_eq, Try.m21_23_eq, Try.m21_27_eq, Try.m21_35_eq, Try.m21_39_eq, Try.m21_43_eq, m23_v, okR, List.all_nil, List.all_cons,
    Option.bind, eqSs_cons, eqSs_nil, eqS_int, eqS_str, spl_one, List.set, List.take, List.drop, List.append, List.cons_append, List.nil_append, List.append_nil, List.length_nil, List.length_cons, if_true, if_false, ↓reduceIte, decide_true, decide_false, Bool.not_true, Bool.not_false, Bool.true_and, Bool.and_true, Nat.zero_add, Nat.reduceAdd]
  generalize (decide (op = 0) && (decide (dst = -1) && (decide (a = 0) && (decide (b = 0) && (decide (n = 0) && (decide (text = []) && (decide (a0 = 0) && (decide (a1 = 0) && (decide (a2 = 0) && (decide (a3 = 0) && (decide (a4 = 0) && (decide (a5 = 0) && decide (else_ = -1))))))))))))) = E
  simp only [lt_not]
  generalize decide (0 ≤ to_) = x0; generalize decide (I f.code.length ≤ to_) = x1; cases E <;> cases x0 <;> cases x1 <;> exact ⟨_, rfl, rfl⟩
set_option linter.unusedSimpArgs false in
theorem both_12 (op dst a b n : Int) (text : List UInt8) (a0 a1 a2 a3 a4 a5 to_ else_ : Int) (f : En.Dop.Fnc) : Both ⟨12, op, dst, a, b, n, text, a0, a1, a2, a3, a4, a5, to_, else_⟩ f := by
  unfold Both
  simp (decide := true) only [Try.m20_eq, Try.m32_eq, Try.m43_eq, Try.m43_9_eq, Try.m18_eq, Try.m29_eq, Try.m32_9_eq, Try.m32_16_eq, m30_v, Try.m34_eq, m33_v, m22_v, Try.m35_eq, Try.m36_eq, m31_v,
    Try.m21_eq, Try.m37_eq, Try.m37_5_eq, m21_rest, andC_none, room_1, room_2, room_3,
    Option.bind, eqSs_cons, eqSs_nil, eqS_int, eqS_str, spl_one, List.set, List.take, List.drop, List.append, List.cons_append, List.nil_append, List.append_nil, List.length_nil, List.length_cons, if_true, if_false, ↓reduceIte, decide_true, decide_false, Bool.not_true, Bool.not_false, Bool.true_and, Bool.and_true, Nat.zero_add, Nat.reduceAdd]
  simp (decide := true) only [rest, Try.m21_6_eq, Try.m38_eq, Try.m21_16_eq, Try.m21_19_eq, Try.m21_21_eq, Try.m21_23_eq, Try.m21_27_eq, Try.m21_35_eq, Try.m21_39_eq, Try.m21_43_eq, m23_v, okR, List.all_nil, List.all_cons,
    Option.bind, eqSs_cons, eqSs_nil, eqS_int, eqS_str, spl_one, List.set, List.take, List.drop, List.append, List.cons_append, List.nil_append, List.append_nil, List.length_nil, List.length_cons, if_true, if_false, ↓reduceIte, decide_true, decide_false, Bool.not_true, Bool.not_false, Bool.true_and, Bool.and_true, Nat.zero_add, Nat.reduceAdd]
  generalize (decide (op = 0) && (decide (dst = -1) && (decide (b = 0) && (decide (n = 0) && (decide (text = []) && (decide (a0 = 0) && (decide (a1 = 0) && (decide (a2 = 0) && (decide (a3 = 0) && (decide (a4 = 0) && decide (a5 = 0))))))))))) = E
  simp only [lt_not]
  generalize decide (0 ≤ a) = x0; generalize decide (f.regs ≤ a) = x1; generalize decide (0 ≤ to_) = x2; generalize decide (I f.code.length ≤ to_) = x3; generalize decide (0 ≤ else_) = x4; generalize decide (I f.code.length ≤ else_) = x5; cases E <;> cases x0 <;> cases x1 <;> cases x2 <;> cases x3 <;> cases x4 <;> cases x5 <;> exact ⟨_, rfl, rfl⟩
set_option linter.unusedSimpArgs false in
theorem both_13 (op dst a b n : Int) (text : List UInt8) (a0 a1 a2 a3 a4 a5 to_ else_ : Int) (f : En.Dop.Fnc) : Both ⟨13, op, dst, a, b, n, text, a0, a1, a2, a3, a4, a5, to_, else_⟩ f := by
  unfold Both
  simp (decide := true) only [Try.m20_eq, Try.m32_eq, Try.m43_eq, Try.m43_9_eq, Try.m18_eq, Try.m29_eq, Try.m32_9_eq, Try.m32_16_eq, m30_v, Try.m34_eq, m33_v, m22_v, Try.m35_eq, Try.m36_eq, m31_v,
    Try.m21_eq, Try.m37_eq, Try.m37_5_eq, m21_rest, andC_none, room_1, room_2, room_3,
    Option.bind, eqSs_cons, eqSs_nil, eqS_int, eqS_str, spl_one, List.set, List.take, List.drop, List.append, List.cons_append, List.nil_append, List.append_nil, List.length_nil, List.length_cons, if_true, if_false, ↓reduceIte, decide_true, decide_false, Bool.not_true, Bool.not_false, Bool.true_and, Bool.and_true, Nat.zero_add, Nat.reduceAdd]
  simp (decide := true) only [rest, Try.m21_6_eq, Try.m38_eq, Try.m21_16_eq, Try.m21_19_eq, Try.m21_21_eq, Try.m21_23_eq, Try.m21_27_eq, Try.m21_35_eq, Try.m21_39_eq, Try.m21_43_eq, m23_v, okR, List.all_nil, List.all_cons,
    Option.bind, eqSs_cons, eqSs_nil, eqS_int, eqS_str, spl_one, List.set, List.take, List.drop, List.append, List.cons_append, List.nil_append, List.append_nil, List.length_nil, List.length_cons, if_true, if_false, ↓reduceIte, decide_true, decide_false, Bool.not_true, Bool.not_false, Bool.true_and, Bool.and_true, Nat.zero_add, Nat.reduceAdd]
  generalize (decide (op = 0) && (decide (dst = -1) && (decide (b = 0) && (decide (n = 0) && (decide (text = []) && (decide (a0 = 0) && (decide (a1 = 0) && (decide (a2 = 0) && (decide (a3 = 0) && (decide (a4 = 0) && (decide (a5 = 0) && (decide (to_ = 0) && decide (else_ = -1))))))))))))) = E
  simp only [lt_not]
  generalize decide (0 ≤ a) = x0; generalize decide (f.regs ≤ a) = x1; cases E <;> cases x0 <;> cases x1 <;> exact ⟨_, rfl, rfl⟩
end Go.Proofs.Law
