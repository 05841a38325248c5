/-
  Layer 7, plain: whether an instruction may be; the code's answer and the document's are one.
-/
import Derived.Test.YtfonahhlkanabaaLfA
namespace Go.Proofs.Law
open Go Go.En Go.Proofs

set_option linter.unusedSimpArgs false in
theorem I_eq (n : Nat) : I n = (n : Int) := rfl
set_option linter.unusedSimpArgs false in
theorem eqS_int (k k' : IntKind) (a b : Int) : eqS (.v (.int k a)) (.v (.int k' b)) = decide (a = b) := rfl
set_option linter.unusedSimpArgs false in
theorem eqS_str (a b : List UInt8) : eqS (.v (.string ⟨⟨a⟩⟩)) (.v (.string ⟨⟨b⟩⟩)) = decide (a = b) := rfl
set_option linter.unusedSimpArgs false in
theorem eqSs_cons (x y : SV) (r q : List SV) : eqSs (x :: r) (y :: q) = (eqS x y && eqSs r q) := rfl
set_option linter.unusedSimpArgs false in
theorem eqSs_nil : eqSs [] [] = true := rfl
set_option linter.unusedSimpArgs false in
theorem spl_one (cs : List SV) (off : Nat) (x : SV) : spl cs off [x] = cs.set off x := rfl
set_option linter.unusedSimpArgs false in
theorem andC_none (b : Bool) : andC none b = b := by cases b <;> rfl

/-- All are registers. -/
def okR (f : En.Dop.Fnc) (l : List Int) : Bool := l.all fun x => decide (0 ≤ x) && decide (x < f.regs)

set_option linter.unusedSimpArgs false in
theorem m30_v (n : Int) (b : En.Dop.Fnc) : Try.m30 n b = some ((decide (0 ≤ n) && decide (n < b.regs), ()), ((b, ()), ())) := by
  rw [Try.m30_eq]
  by_cases h : (0 : Int) ≤ n
  · simp only [h, decide_true, if_true, Bool.true_and]; try rfl
  · simp only [h, decide_false, Bool.false_eq_true, if_false, Bool.false_and]; try rfl
set_option linter.unusedSimpArgs false in
theorem m45_v (n : Int) (b : En.Dop.Fnc) : Try.m45_30 n b = some ((!(decide (0 ≤ n) && decide (n < b.regs)), ()), (((), ()), ((b, ()), ()))) := by
  rw [Try.m45_30_eq, m30_v]; rfl
set_option linter.unusedSimpArgs false in
theorem drop_get {α : Type} {s : List α} {k : Nat} (d : α) (h : k < s.length) : s.drop k = s.getD k d :: s.drop (k + 1) := by
  rw [List.drop_eq_getElem_cons h]; simp [List.getD, h]
set_option linter.unusedSimpArgs false in
theorem m48_v (s : List Int) (b : En.Dop.Fnc) (hs : s.length < 1000000) : ∀ (n k : Nat), k + n = s.length →
    ∃ j : Int, Try.m48_45_30_2 s (I s.length) (I k) b = some ((j, ()), (((), ()), ((b, ()), ()))) ∧ decide (0 ≤ j) = !okR b (s.drop k)
  | 0, k, h => by
    refine ⟨-1, ?_, ?_⟩
    · rw [Try.m48_45_30_2_eq]
      have : ¬ (I k < I s.length) := by simp only [I_eq]; omega
      simp only [this, decide_false, Bool.false_eq_true, if_false]; try rfl
    · rw [List.drop_eq_nil_of_le (by omega)]; rfl
  | n + 1, k, h => by
    have hk : k < s.length := by omega
    obtain ⟨j, h1, h2⟩ := m48_v s b hs n (k + 1) (by omega)
    rw [Try.m48_45_30_2_eq]
    have e1 : I k < I s.length := by simp only [I_eq]; omega
    have e2 : (0 : Int) ≤ I k := by simp only [I_eq]; omega
    have e3 : I k + 1 = I (k + 1) := by simp only [I_eq]; omega
    have e4 : inR (I k + 1) = true := by rw [inR_iff]; simp only [I_eq]; omega
    simp only [e1, e2, and_self, decide_true, if_true, m45_v, Option.bind, e4]
    have e5 : (I k).toNat = k := Int.toNat_natCast k
    rw [e5, drop_get (0 : Int) hk]
    cases hg : (decide (0 ≤ s.getD k 0) && decide (s.getD k 0 < b.regs)) with
    | true =>
      refine ⟨j, ?_, ?_⟩
      · simp only [Bool.not_true, Bool.false_eq_true, if_false, e3]; exact h1
      · rw [h2]; simp only [okR, List.all_cons, hg, Bool.true_and]
    | false =>
      refine ⟨I k, by simp only [Bool.not_false, if_true]; try rfl, ?_⟩
      simp only [okR, List.all_cons, hg, Bool.false_and, Bool.not_false, e2, decide_true]
set_option linter.unusedSimpArgs false in
theorem m33_v (l : List Int) (b : En.Dop.Fnc) (hs : l.length < 1000000) : Try.m33_30 l b = some ((okR b l, ()), ((b, ()), ())) := by
  obtain ⟨j, h1, h2⟩ := m48_v l b hs l.length 0 (by omega)
  have h1' : Try.m48_45_30_2 l (I l.length) 0 b = some ((j, ()), (((), ()), ((b, ()), ()))) := h1
  rw [Try.m33_30_eq, Try.m44_45_30_eq, Try.m48_45_30_eq, h1']
  simp only [Option.bind, h2, List.drop_zero, Bool.not_not]
  try rfl

set_option linter.unusedSimpArgs false in
/-- The document's walk over the registers. -/
theorem m21_v (s : List Int) (b0 : En.Dop.Ins) (b1 : En.Dop.Fnc) (b2 : En.Dop.Ins) (hs : s.length < 1000000) : ∀ (n k : Nat), k + n = s.length →
    Try.m21_6 s (I k) b0 b1 b2 = if okR b1 (s.drop k) = true then Try.m21_6 s (I s.length) b0 b1 b2 else some ((false, ()), ())
  | 0, k, h => by
    have e : k = s.length := by omega
    subst e
    rw [List.drop_eq_nil_of_le (Nat.le_refl _)]
    simp [okR]
  | n + 1, k, h => by
    have hk : k < s.length := by omega
    have ih := m21_v s b0 b1 b2 hs n (k + 1) (by omega)
    rw [Try.m21_6_eq]
    have e1 : I k < I s.length := by simp only [I_eq]; omega
    have e2 : (0 : Int) ≤ I k := by simp only [I_eq]; omega
    have e3 : I k + 1 = I (k + 1) := by simp only [I_eq]; omega
    have e4 : inR (I k + 1) = true := by rw [inR_iff]; simp only [I_eq]; omega
    have e5 : (I k).toNat = k := Int.toNat_natCast k
    simp only [e1, e2, e5, hk, and_self, decide_true, if_true, e4]
    rw [drop_get (0 : Int) hk, e3, ih]
    simp only [okR, List.all_cons]
    by_cases g1 : s.getD k 0 < 0
    · have : ¬ (0 ≤ s.getD k 0) := by omega
      simp only [g1, this, decide_true, decide_false, Bool.true_and, Bool.false_and, Bool.and_true, Bool.and_false, Bool.false_eq_true, if_true, if_false]
    · have g1' : 0 ≤ s.getD k 0 := by omega
      by_cases g2 : b1.regs ≤ s.getD k 0
      · have : ¬ (s.getD k 0 < b1.regs) := by omega
        simp only [g1, g2, g1', this, decide_true, decide_false, Bool.true_and, Bool.false_and, Bool.and_true, Bool.and_false, Bool.false_eq_true, if_true, if_false]
      · have : s.getD k 0 < b1.regs := by omega
        simp only [g1, g2, g1', this, decide_true, decide_false, Bool.true_and, Bool.false_and, Bool.and_true, Bool.and_false, Bool.false_eq_true, if_true, if_false]
        rfl
set_option linter.unusedSimpArgs false in
/-- .. behind it. -/
theorem m21_end (s : List Int) (b0 : En.Dop.Ins) (b1 : En.Dop.Fnc) (b2 : En.Dop.Ins) : Try.m21_6 s (I s.length) b0 b1 b2 = Try.m21_6 [] 0 b0 b1 b2 := by
  rw [Try.m21_6_eq s, Try.m21_6_eq []]
  have h : ¬ ((0 : Int) < I ([] : List Int).length) := by simp [I_eq]
  simp only [Int.lt_irrefl, h, decide_false, Bool.false_eq_true, if_false]
set_option linter.unusedSimpArgs false in
theorem m21_regs (s : List Int) (b0 : En.Dop.Ins) (b1 : En.Dop.Fnc) (b2 : En.Dop.Ins) (hs : s.length < 1000000) :
    Try.m21_6 s 0 b0 b1 b2 = if okR b1 s = true then Try.m21_6 [] 0 b0 b1 b2 else some ((false, ()), ()) := by
  have := m21_v s b0 b1 b2 hs s.length 0 (by omega)
  rw [m21_end] at this
  exact this
/-- The document's answer behind the registers. -/
noncomputable def rest (b0 : En.Dop.Ins) (b1 : En.Dop.Fnc) (b2 : En.Dop.Ins) := Try.m21_6 [] 0 b0 b1 b2
set_option linter.unusedSimpArgs false in
theorem m21_rest (s : List Int) (b0 : En.Dop.Ins) (b1 : En.Dop.Fnc) (b2 : En.Dop.Ins) (hs : s.length < 1000000) :
    Try.m21_6 s 0 b0 b1 b2 = if okR b1 s = true then rest b0 b1 b2 else some ((false, ()), ()) := m21_regs s b0 b1 b2 hs

set_option linter.unusedSimpArgs false in
theorem wrap_u (n : Int) : IntKind.u32.wrap n = n % 4294967296 := by simp [IntKind.wrap, IntKind.signed, IntKind.bits]
set_option linter.unusedSimpArgs false in
theorem wrap_i (n : Int) : IntKind.i32.wrap n = if n % 4294967296 ≥ 2147483648 then n % 4294967296 - 4294967296 else n % 4294967296 := by simp [IntKind.wrap, IntKind.signed, IntKind.bits]
set_option linter.unusedSimpArgs false in
theorem wrap_word (n : Int) : decide (IntKind.i32.wrap (IntKind.u32.wrap n) = n) = (decide (-2147483648 ≤ n) && decide (n ≤ 2147483647)) := by
  rw [Bool.eq_iff_iff, wrap_u, wrap_i]
  simp only [decide_eq_true_eq, Bool.and_eq_true]
  split <;> omega
set_option linter.unusedSimpArgs false in
theorem wrap_in (n : Int) : inR (IntKind.i32.wrap (IntKind.u32.wrap n)) = true := by
  rw [inR_iff, wrap_u, wrap_i]
  split <;> omega
set_option linter.unusedSimpArgs false in
theorem m22_v (n : Int) : Try.m22 n = some ((decide (-2147483648 ≤ n) && decide (n ≤ 2147483647), ()), ()) := by
  rw [Try.m22_eq, Try.m39_eq]
  simp only [wrap_in, if_true, Option.bind, wrap_word]
set_option linter.unusedSimpArgs false in
theorem m23_v (n : Int) : Try.m23 n = some ((decide (-2147483648 ≤ n) && decide (n ≤ 2147483647), ()), ()) := by
  rw [Try.m23_eq]
  by_cases h : (-2147483648 : Int) ≤ n
  · simp only [h, decide_true, if_true, Bool.true_and]
  · simp only [h, decide_false, Bool.false_eq_true, if_false, Bool.false_and]
set_option linter.unusedSimpArgs false in
theorem room_1 (a : Int) : room 8 (([] : List Int).length + [a].length) = true := rfl
set_option linter.unusedSimpArgs false in
theorem room_2 (a b : Int) : room 8 (([] ++ [a] : List Int).length + [b].length) = true := rfl
set_option linter.unusedSimpArgs false in
theorem room_3 (a b : Int) : room 8 ([a].length + [b].length) = true := rfl
end Go.Proofs.Law
