/-
  Layer 7, plain: what the run needs of any instruction that may be.
-/
import Derived.Test.YtfonahhlkanabaaLawL
set_option maxRecDepth 20000
namespace Go.Proofs.Law
open Go Go.En Go.Proofs
set_option linter.unusedSimpArgs false in
theorem no_8_neg (op dst a b n : Int) (text : List UInt8) (a0 a1 a2 a3 a4 a5 to_ else_ : Int) (f : En.Dop.Fnc) (h1 : n < 0) : Try.m20 ⟨8, op, dst, a, b, n, text, a0, a1, a2, a3, a4, a5, to_, else_⟩ f = some ((true, ()), ()) → False := by
  have h1 : n < 0 := h1
  have h2 : ¬ 0 < n := by omega
  have h3 : ¬ 0 ≤ n := by omega
  simp (decide := true) only [Try.m20_eq, Try.m32_eq, Try.m43_eq, Try.m43_9_eq, Try.m18_eq, Try.m29_eq, Try.m32_9_eq, Try.m32_16_eq, Try.m32_18_eq, m30_v, Try.m34_eq, m33_v, andC_none, okR, List.all_nil, List.all_cons,
    Option.bind, eqSs_cons, eqSs_nil, eqS_int, eqS_str, spl_one, List.set, List.take, List.drop, List.append, List.cons_append, List.nil_append, List.append_nil, List.length_nil, List.length_cons, if_true, if_false, ↓reduceIte, decide_true, decide_false, Bool.not_true, Bool.not_false, Bool.true_and, Bool.and_true, Nat.zero_add, Nat.reduceAdd, Int.reduceAdd, Int.reduceToNat, Int.zero_add, List.getD_cons_zero, List.getD_cons_succ, Nat.reduceEqDiff, Nat.reduceLeDiff, andC_some, and_self, and_true, true_and, h1, h2, h3]
  generalize (decide (op = 0) && (decide (a = 0) && (decide (b = 0) && (decide (a0 = 0) && (decide (a1 = 0) && (decide (a2 = 0) && (decide (a3 = 0) && (decide (a4 = 0) && (decide (a5 = 0) && (decide (to_ = 0) && decide (else_ = -1))))))))))) = E
  generalize (decide (0 ≤ dst) && decide (dst < f.regs)) = X; generalize decide (dst = -1) = Y
  cases E <;> cases X <;> cases Y <;> (intro h; simp [Option.bind] at h; done)
set_option linter.unusedSimpArgs false in
theorem no_8_big (op dst a b n : Int) (text : List UInt8) (a0 a1 a2 a3 a4 a5 to_ else_ : Int) (f : En.Dop.Fnc) (h1 : 6 < n) : Try.m20 ⟨8, op, dst, a, b, n, text, a0, a1, a2, a3, a4, a5, to_, else_⟩ f = some ((true, ()), ()) → False := by
  have h1 : 6 < n := h1
  have h8 : ¬ n < 0 := by omega
  have h9 : ¬ n ≤ 6 := by omega
  have h10 : 0 ≤ n := by omega
  simp (decide := true) only [Try.m20_eq, Try.m32_eq, Try.m43_eq, Try.m43_9_eq, Try.m18_eq, Try.m29_eq, Try.m32_9_eq, Try.m32_16_eq, Try.m32_18_eq, m30_v, Try.m34_eq, m33_v, andC_none, okR, List.all_nil, List.all_cons,
    Option.bind, eqSs_cons, eqSs_nil, eqS_int, eqS_str, spl_one, List.set, List.take, List.drop, List.append, List.cons_append, List.nil_append, List.append_nil, List.length_nil, List.length_cons, if_true, if_false, ↓reduceIte, decide_true, decide_false, Bool.not_true, Bool.not_false, Bool.true_and, Bool.and_true, Nat.zero_add, Nat.reduceAdd, Int.reduceAdd, Int.reduceToNat, Int.zero_add, List.getD_cons_zero, List.getD_cons_succ, Nat.reduceEqDiff, Nat.reduceLeDiff, andC_some, and_self, and_true, true_and, h1, h8, h9, h10]
  generalize (decide (op = 0) && (decide (a = 0) && (decide (b = 0) && (decide (to_ = 0) && decide (else_ = -1))))) = E
  generalize ((decide (0 ≤ a0) && decide (a0 < f.regs)) && ((decide (0 ≤ a1) && decide (a1 < f.regs)) && ((decide (0 ≤ a2) && decide (a2 < f.regs)) && ((decide (0 ≤ a3) && decide (a3 < f.regs)) && ((decide (0 ≤ a4) && decide (a4 < f.regs)) && (decide (0 ≤ a5) && decide (a5 < f.regs))))))) = R
  generalize (decide (0 ≤ dst) && decide (dst < f.regs)) = X; generalize decide (dst = -1) = Y
  cases E <;> cases R <;> cases X <;> cases Y <;> (intro h; simp [Option.bind] at h; done)
set_option linter.unusedSimpArgs false in
theorem fine_8 (op dst a b n : Int) (text : List UInt8) (a0 a1 a2 a3 a4 a5 to_ else_ : Int) (f : En.Dop.Fnc) (h : Try.m20 ⟨8, op, dst, a, b, n, text, a0, a1, a2, a3, a4, a5, to_, else_⟩ f = some ((true, ()), ())) : Fine ⟨8, op, dst, a, b, n, text, a0, a1, a2, a3, a4, a5, to_, else_⟩ f := by
  have key : (0 ≤ dst ∧ dst < f.regs ∨ dst = -1) ∧ ∃ l : List Int, Try.m34 ⟨8, op, dst, a, b, n, text, a0, a1, a2, a3, a4, a5, to_, else_⟩ = some ((l, ()), ()) ∧ l.length ≤ 6 ∧ okR f l = true := by
    by_cases h1 : n < 0
    · exact (no_8_neg op dst a b n text a0 a1 a2 a3 a4 a5 to_ else_ f h1 h).elim
    by_cases h2 : 6 < n
    · exact (no_8_big op dst a b n text a0 a1 a2 a3 a4 a5 to_ else_ f h2 h).elim
    have : n = 0 ∨ n = 1 ∨ n = 2 ∨ n = 3 ∨ n = 4 ∨ n = 5 ∨ n = 6 := by omega
    rcases this with rfl | rfl | rfl | rfl | rfl | rfl | rfl
    · obtain ⟨k1, k2⟩ := known_8_0 op dst a b text a0 a1 a2 a3 a4 a5 to_ else_ f h
      exact ⟨k2.imp both_dec of_decide_eq_true, _, uses_8_0 op dst a b text a0 a1 a2 a3 a4 a5 to_ else_, (by decide : (0 : Nat) ≤ 6), k1⟩
    · obtain ⟨k1, k2⟩ := known_8_1 op dst a b text a0 a1 a2 a3 a4 a5 to_ else_ f h
      exact ⟨k2.imp both_dec of_decide_eq_true, _, uses_8_1 op dst a b text a0 a1 a2 a3 a4 a5 to_ else_, (by decide : (1 : Nat) ≤ 6), k1⟩
    · obtain ⟨k1, k2⟩ := known_8_2 op dst a b text a0 a1 a2 a3 a4 a5 to_ else_ f h
      exact ⟨k2.imp both_dec of_decide_eq_true, _, uses_8_2 op dst a b text a0 a1 a2 a3 a4 a5 to_ else_, (by decide : (2 : Nat) ≤ 6), k1⟩
    · obtain ⟨k1, k2⟩ := known_8_3 op dst a b text a0 a1 a2 a3 a4 a5 to_ else_ f h
      exact ⟨k2.imp both_dec of_decide_eq_true, _, uses_8_3 op dst a b text a0 a1 a2 a3 a4 a5 to_ else_, (by decide : (3 : Nat) ≤ 6), k1⟩
    · obtain ⟨k1, k2⟩ := known_8_4 op dst a b text a0 a1 a2 a3 a4 a5 to_ else_ f h
      exact ⟨k2.imp both_dec of_decide_eq_true, _, uses_8_4 op dst a b text a0 a1 a2 a3 a4 a5 to_ else_, (by decide : (4 : Nat) ≤ 6), k1⟩
    · obtain ⟨k1, k2⟩ := known_8_5 op dst a b text a0 a1 a2 a3 a4 a5 to_ else_ f h
      exact ⟨k2.imp both_dec of_decide_eq_true, _, uses_8_5 op dst a b text a0 a1 a2 a3 a4 a5 to_ else_, (by decide : (5 : Nat) ≤ 6), k1⟩
    · obtain ⟨k1, k2⟩ := known_8_6 op dst a b text a0 a1 a2 a3 a4 a5 to_ else_ f h
      exact ⟨k2.imp both_dec of_decide_eq_true, _, uses_8_6 op dst a b text a0 a1 a2 a3 a4 a5 to_ else_, (by decide : (6 : Nat) ≤ 6), k1⟩
  exact { kind := ⟨by simp, by simp⟩, dst := fun h => by simp at h, a := fun h => by simp at h, b := fun h => by simp at h, n := fun h => by simp at h, to := fun h => by simp at h, el := fun h => by simp at h, call := fun _ => key }
set_option linter.unusedSimpArgs false in
/-- AN INSTRUCTION THAT MAY BE IS FINE. -/
theorem fine (i : En.Dop.Ins) (f : En.Dop.Fnc) (h : Try.m20 i f = some ((true, ()), ())) : Fine i f := by
  obtain ⟨k, op, dst, a, b, n, text, a0, a1, a2, a3, a4, a5, to_, else_⟩ := i
  by_cases h1 : k < 1
  · rw [Try.m20_eq] at h; simp [h1] at h
  by_cases h2 : 13 < k
  · rw [Try.m20_eq] at h; simp [h1, h2] at h
  have : k = 1 ∨ k = 2 ∨ k = 3 ∨ k = 4 ∨ k = 5 ∨ k = 6 ∨ k = 7 ∨ k = 8 ∨ k = 9 ∨ k = 10 ∨ k = 11 ∨ k = 12 ∨ k = 13 := by omega
  rcases this with rfl | rfl | rfl | rfl | rfl | rfl | rfl | rfl | rfl | rfl | rfl | rfl | rfl
  · exact fine_1 op dst a b n text a0 a1 a2 a3 a4 a5 to_ else_ f h
  · exact fine_2 op dst a b n text a0 a1 a2 a3 a4 a5 to_ else_ f h
  · exact fine_3 op dst a b n text a0 a1 a2 a3 a4 a5 to_ else_ f h
  · exact fine_4 op dst a b n text a0 a1 a2 a3 a4 a5 to_ else_ f h
  · exact fine_5 op dst a b n text a0 a1 a2 a3 a4 a5 to_ else_ f h
  · exact fine_6 op dst a b n text a0 a1 a2 a3 a4 a5 to_ else_ f h
  · exact fine_7 op dst a b n text a0 a1 a2 a3 a4 a5 to_ else_ f h
  · exact fine_8 op dst a b n text a0 a1 a2 a3 a4 a5 to_ else_ f h
  · exact fine_9 op dst a b n text a0 a1 a2 a3 a4 a5 to_ else_ f h
  · exact fine_10 op dst a b n text a0 a1 a2 a3 a4 a5 to_ else_ f h
  · exact fine_11 op dst a b n text a0 a1 a2 a3 a4 a5 to_ else_ f h
  · exact fine_12 op dst a b n text a0 a1 a2 a3 a4 a5 to_ else_ f h
  · exact fine_13 op dst a b n text a0 a1 a2 a3 a4 a5 to_ else_ f h
end Go.Proofs.Law
