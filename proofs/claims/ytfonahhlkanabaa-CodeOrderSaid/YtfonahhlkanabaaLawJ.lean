/-
  Layer 7, plain: operations on words always tell something.
-/
import Derived.Test.YtfonahhlkanabaaLawG
import Derived.Laws.BitsLemmas
set_option maxRecDepth 20000
namespace Go.Proofs.Law
open Go Go.En Go.Proofs
set_option linter.unusedSimpArgs false in
theorem m39_v (n : Int) : Try.m39 n = some ((IntKind.i32.wrap (IntKind.u32.wrap n), ()), ()) := by
  rw [Try.m39_eq, wrap_in]; rfl
set_option linter.unusedSimpArgs false in
theorem w_rng (n : Int) : -2147483648 ≤ IntKind.i32.wrap (IntKind.u32.wrap n) ∧ IntKind.i32.wrap (IntKind.u32.wrap n) ≤ 2147483647 := by
  rw [wrap_u, wrap_i]; split <;> omega
set_option linter.unusedSimpArgs false in
theorem u_rng (n : Int) : 0 ≤ IntKind.u32.wrap n ∧ IntKind.u32.wrap n ≤ 4294967295 := by rw [wrap_u]; omega
set_option linter.unusedSimpArgs false in
theorem m49_v (n : Int) : Try.m49 n = some ((IntKind.i32.wrap (IntKind.u32.wrap n), (true, ())), ()) := by
  rw [Try.m49_eq, m39_v]; rfl
set_option linter.unusedSimpArgs false in
theorem tdiv_rng (a b : Int) (ha : -4294967296 ≤ a ∧ a ≤ 4294967296) : inR (a.tdiv b) = true := by
  have h : (a.tdiv b).natAbs ≤ a.natAbs := by rw [Int.natAbs_tdiv]; exact Nat.div_le_self _ _
  rw [inR_iff]; omega
set_option linter.unusedSimpArgs false in
theorem m50_v (a b : Int) (ha : -4294967296 ≤ a ∧ a ≤ 4294967296) : ∃ q r s, Try.m50 a b = some ((q, (r, (s, ()))), ()) := by
  rw [Try.m50_eq, Try.m50_3_eq]
  by_cases h : b = 0
  · simp only [h, decide_true, if_true]; exact ⟨_, _, _, rfl⟩
  · simp only [h, decide_false, Bool.false_eq_true, if_false, ne_eq, not_false_eq_true, tdiv_rng a b ha, and_self, decide_true, if_true]; exact ⟨_, _, _, rfl⟩
set_option linter.unusedSimpArgs false in
theorem m51_v (b : Bool) : ∃ v, Try.m51 b = some ((v, ()), ()) := by
  rw [Try.m51_eq]; cases b <;> exact ⟨_, rfl⟩
set_option linter.unusedSimpArgs false in
theorem and31 (n : Int) : bits .and .i64 n 31 = n % 32 := by
  have h31 : (BitVec.ofInt 64 31).toNat = 2 ^ 5 - 1 := by decide
  have key : (BitVec.ofInt 64 n &&& BitVec.ofInt 64 31).toNat = (n % ((2 ^ 64 : Nat) : Int)).toNat % 2 ^ 5 := by
    rw [BitVec.toNat_and, BitVec.toNat_ofInt, h31, Nat.and_two_pow_sub_one_eq_mod]
  show IntKind.i64.wrap ((BitVec.ofInt 64 n &&& BitVec.ofInt 64 31).toNat : Nat) = n % 32
  rw [key, IntKind.wrap_i64]
  omega
set_option linter.unusedSimpArgs false in
theorem and31_ok (n : Int) : (0 ≤ bits .and .i64 n 31 ∧ bits .and .i64 n 31 ≤ I IntKind.i64.bits) = True := by
  have h : I IntKind.i64.bits = 64 := rfl
  rw [and31, h]
  simp only [eq_iff_iff, iff_true]
  omega
set_option linter.unusedSimpArgs false in
theorem m47_15_v (a : Int) (b : Bool) : ∃ v s, Try.m47_15 a b = some ((v, (s, ())), ()) := by rw [Try.m47_15_eq, m39_v]; exact ⟨_, _, rfl⟩
set_option linter.unusedSimpArgs false in
theorem m47_21_v (a : Int) (b : Bool) : ∃ v s, Try.m47_21 a b = some ((v, (s, ())), ()) := by rw [Try.m47_21_eq, m39_v]; exact ⟨_, _, rfl⟩
set_option linter.unusedSimpArgs false in
theorem m46_v2 (n : Int) : Try.m46 n = some ((IntKind.u32.wrap n, ()), ()) := m46_v n
set_option linter.unusedSimpArgs false in
theorem m47_12_v (o x y : Int) (hx : -4294967296 ≤ x ∧ x ≤ 4294967296) : ∃ v s, Try.m47_12 o x y = some ((v, (s, ())), ()) := by
  obtain ⟨q, r, s, h⟩ := m50_v x y hx
  rw [Try.m47_12_eq, h]
  simp only [Option.bind]
  split
  · exact m47_15_v _ _
  · exact m47_15_v _ _
set_option linter.unusedSimpArgs false in
theorem m47_18_v (o x y : Int) : ∃ v s, Try.m47_18 o x y = some ((v, (s, ())), ()) := by
  have hu := u_rng x
  obtain ⟨q, r, s, h⟩ := m50_v (IntKind.u32.wrap x) (IntKind.u32.wrap y) (by omega)
  rw [Try.m47_18_eq, m46_v, m46_v]
  simp only [Option.bind, h]
  split
  · exact m47_21_v _ _
  · exact m47_21_v _ _
set_option linter.unusedSimpArgs false in
theorem m51_w (b : Bool) : Try.m51 b = some ((if b = true then 1 else 0, ()), ()) := by
  rw [Try.m51_eq]; cases b <;> rfl
set_option linter.unusedSimpArgs false in
theorem m47_22_v (x y k : Int) (hx : -2147483648 ≤ x ∧ x ≤ 2147483647) : ∃ v s, Try.m47_22 x y k = some ((v, (s, ())), ()) := by
  have hn : inR (-x) = true := by rw [inR_iff]; omega
  rw [Try.m47_22_eq]
  simp only [and31_ok, m46_v, m49_v, m51_w, Option.bind, hn, decide_true, if_true]
  by_cases c8 : k = 8
  · simp (decide := true) only [c8, decide_true, decide_false, Bool.false_eq_true, if_true, if_false]; exact ⟨_, _, rfl⟩
  by_cases c9 : k = 9
  · simp (decide := true) only [c8, c9, decide_true, decide_false, Bool.false_eq_true, if_true, if_false]; exact ⟨_, _, rfl⟩
  by_cases c10 : k = 10
  · simp (decide := true) only [c8, c9, c10, decide_true, decide_false, Bool.false_eq_true, if_true, if_false]; exact ⟨_, _, rfl⟩
  by_cases c11 : k = 11
  · simp (decide := true) only [c8, c9, c10, c11, decide_true, decide_false, Bool.false_eq_true, if_true, if_false]; exact ⟨_, _, rfl⟩
  by_cases c12 : k = 12
  · simp (decide := true) only [c8, c9, c10, c11, c12, decide_true, decide_false, Bool.false_eq_true, if_true, if_false]; exact ⟨_, _, rfl⟩
  by_cases c13 : k = 13
  · simp (decide := true) only [c8, c9, c10, c11, c12, c13, decide_true, decide_false, Bool.false_eq_true, if_true, if_false]; exact ⟨_, _, rfl⟩
  by_cases c14 : k = 14
  · simp (decide := true) only [c8, c9, c10, c11, c12, c13, c14, decide_true, decide_false, Bool.false_eq_true, if_true, if_false]; exact ⟨_, _, rfl⟩
  by_cases c15 : k = 15
  · simp (decide := true) only [c8, c9, c10, c11, c12, c13, c14, c15, decide_true, decide_false, Bool.false_eq_true, if_true, if_false]; exact ⟨_, _, rfl⟩
  by_cases c16 : k = 16
  · simp (decide := true) only [c8, c9, c10, c11, c12, c13, c14, c15, c16, decide_true, decide_false, Bool.false_eq_true, if_true, if_false]; exact ⟨_, _, rfl⟩
  by_cases c17 : k = 17
  · simp (decide := true) only [c8, c9, c10, c11, c12, c13, c14, c15, c16, c17, decide_true, decide_false, Bool.false_eq_true, if_true, if_false]; exact ⟨_, _, rfl⟩
  by_cases c18 : k = 18
  · simp (decide := true) only [c8, c9, c10, c11, c12, c13, c14, c15, c16, c17, c18, decide_true, decide_false, Bool.false_eq_true, if_true, if_false]; exact ⟨_, _, rfl⟩
  by_cases c19 : k = 19
  · simp (decide := true) only [c8, c9, c10, c11, c12, c13, c14, c15, c16, c17, c18, c19, decide_true, decide_false, Bool.false_eq_true, if_true, if_false]; exact ⟨_, _, rfl⟩
  by_cases c20 : k = 20
  · simp (decide := true) only [c8, c9, c10, c11, c12, c13, c14, c15, c16, c17, c18, c19, c20, decide_true, decide_false, Bool.false_eq_true, if_true, if_false]; exact ⟨_, _, rfl⟩
  by_cases c21 : k = 21
  · simp (decide := true) only [c8, c9, c10, c11, c12, c13, c14, c15, c16, c17, c18, c19, c20, c21, decide_true, decide_false, Bool.false_eq_true, if_true, if_false]; exact ⟨_, _, rfl⟩
  by_cases c22 : k = 22
  · simp (decide := true) only [c8, c9, c10, c11, c12, c13, c14, c15, c16, c17, c18, c19, c20, c21, c22, decide_true, decide_false, Bool.false_eq_true, if_true, if_false]; exact ⟨_, _, rfl⟩
  by_cases c23 : k = 23
  · simp (decide := true) only [c8, c9, c10, c11, c12, c13, c14, c15, c16, c17, c18, c19, c20, c21, c22, c23, decide_true, decide_false, Bool.false_eq_true, if_true, if_false]; exact ⟨_, _, rfl⟩
  simp only [c8, c9, c10, c11, c12, c13, c14, c15, c16, c17, c18, c19, c20, c21, c22, c23, decide_false, Bool.false_eq_true, if_false]; exact ⟨_, _, rfl⟩
set_option linter.unusedSimpArgs false in
theorem m47_16_v (o x y k : Int) (hx : -2147483648 ≤ x ∧ x ≤ 2147483647) : ∃ v s, Try.m47_16 o x y k = some ((v, (s, ())), ()) := by
  rw [Try.m47_16_eq]
  repeat' split
  all_goals first | exact m47_18_v _ _ _ | exact m47_22_v _ _ _ hx
set_option linter.unusedSimpArgs false in
theorem mul_rng (a b : Int) (ha : -2147483648 ≤ a ∧ a ≤ 2147483647) (hb : -2147483648 ≤ b ∧ b ≤ 2147483647) : inR (a * b) = true := by
  have h : (a * b).natAbs ≤ 2147483648 * 2147483648 := by
    rw [Int.natAbs_mul]; exact Nat.mul_le_mul (by omega) (by omega)
  rw [inR_iff]; omega
set_option linter.unusedSimpArgs false in
/-- AN OPERATION ON WORDS ALWAYS TELLS SOMETHING. -/
theorem m47_v (o x y : Int) : ∃ v s, Try.m47 o x y = some ((v, (s, ())), ()) := by
  have h1 := w_rng x
  have h2 := w_rng y
  rw [Try.m47_eq, m39_v, m39_v]
  simp only [Option.bind]
  generalize IntKind.i32.wrap (IntKind.u32.wrap x) = a at h1 ⊢
  generalize IntKind.i32.wrap (IntKind.u32.wrap y) = b at h2 ⊢
  have i1 : inR (a + b) = true := by rw [inR_iff]; omega
  have i2 : inR (a - b) = true := by rw [inR_iff]; omega
  simp only [i1, i2, mul_rng a b h1 h2, m49_v, if_true]
  repeat' split
  all_goals first | exact ⟨_, _, rfl⟩ | exact m47_12_v _ _ _ (by omega) | exact m47_16_v _ _ _ _ h1
end Go.Proofs.Law
