/-
  Layer 7, plain: whether a function, and a unit, may be; where a function stands.
-/
import Derived.Test.YtfonahhlkanabaaLawC
set_option maxRecDepth 20000
namespace Go.Proofs.Law
open Go Go.En Go.Proofs

set_option linter.unusedSimpArgs false in
theorem I_lt {a b : Nat} (h : a < b) : I a < I b := by simp only [I_eq]; omega
set_option linter.unusedSimpArgs false in
theorem I_nlt (a : Nat) : ¬ I a < I a := by simp only [I_eq]; omega
set_option linter.unusedSimpArgs false in
theorem I_nn (a : Nat) : (0 : Int) ≤ I a := by simp only [I_eq]; omega
set_option linter.unusedSimpArgs false in
theorem I_nat (a : Nat) : (I a).toNat = a := Int.toNat_natCast a
set_option linter.unusedSimpArgs false in
theorem I_s (a : Nat) : I a + 1 = I (a + 1) := by simp only [I_eq]; omega
set_option linter.unusedSimpArgs false in
theorem I_in {a b : Nat} (h : a < b) (hb : b < 1000000) : inR (I (a + 1)) = true := by rw [inR_iff]; simp only [I_eq]; omega

set_option linter.unusedSimpArgs false in
/-- Functions: the loop. -/
theorem func_loop (f : En.Dop.Fnc) (hr : 0 ≤ f.regs) (hl : f.code.length < 1000000) (h1 : 1 ≤ f.code.length) : ∀ (n k : Nat), k + n = f.code.length →
    ∃ r, Try.m9_4 f.code (I f.code.length) (I k) f = some ((r, ()), ()) ∧ Try.m10_4 (I k) f = some ((r, ()), ())
  | 0, k, h => by
    have e : k = f.code.length := by omega
    subst e
    rw [Try.m9_4_eq, Try.m10_4_eq]
    have e1 : inR (I f.code.length - 1) = true := by rw [inR_iff]; simp only [I_eq]; omega
    have e2 : 0 ≤ I f.code.length - 1 ∧ I f.code.length - 1 < I f.code.length := by simp only [I_eq]; omega
    simp only [I_nlt, decide_false, Bool.false_eq_true, if_false, e1, e2, and_self, decide_true, if_true]
    exact ⟨_, rfl⟩
  | n + 1, k, h => by
    have hk : k < f.code.length := by omega
    obtain ⟨r, k1, k2⟩ := func_loop f hr hl h1 n (k + 1) (by omega)
    obtain ⟨q, q1, q2⟩ := both (f.code.getD k Dop.d3) f hr
    rw [Try.m9_4_eq, Try.m10_4_eq]
    simp only [I_lt hk, I_nn, I_nat, I_s, I_in hk hl, and_self, decide_true, if_true, q1, q2, Option.bind, k1, k2]
    cases q
    · exact ⟨false, rfl⟩
    · exact ⟨r, rfl⟩
set_option linter.unusedSimpArgs false in
/-- WHETHER A FUNCTION MAY BE. -/
theorem func (f : En.Dop.Fnc) : ∃ r, Try.m9 f = some ((r, ()), ()) ∧ Try.m10 f = some ((r, ()), ()) := by
  rw [Try.m9_eq, Try.m10_eq]
  simp only [len_nil]
  by_cases c1 : f.name = []
  · simp only [c1, decide_true, if_true]; exact ⟨_, rfl, rfl⟩
  by_cases c2 : f.params < 0
  · simp only [c1, c2, decide_true, decide_false, Bool.false_eq_true, if_true, if_false]; exact ⟨_, rfl, rfl⟩
  by_cases c3 : 6 < f.params
  · simp only [c1, c2, c3, decide_true, decide_false, Bool.false_eq_true, if_true, if_false]; exact ⟨_, rfl, rfl⟩
  by_cases c4 : f.regs < f.params
  · simp only [c1, c2, c3, c4, decide_true, decide_false, Bool.false_eq_true, if_true, if_false]; exact ⟨_, rfl, rfl⟩
  by_cases c5 : 4096 < f.regs
  · simp only [c1, c2, c3, c4, c5, decide_true, decide_false, Bool.false_eq_true, if_true, if_false]; exact ⟨_, rfl, rfl⟩
  by_cases c6 : f.frame < 0
  · simp only [c1, c2, c3, c4, c5, c6, decide_true, decide_false, Bool.false_eq_true, if_true, if_false]; exact ⟨_, rfl, rfl⟩
  by_cases c7 : 4096 < f.frame
  · simp only [c1, c2, c3, c4, c5, c6, c7, decide_true, decide_false, Bool.false_eq_true, if_true, if_false]; exact ⟨_, rfl, rfl⟩
  by_cases c8 : I f.code.length < 1
  · have c8' : I f.code.length = 0 := by simp only [I_eq] at c8 ⊢; omega
    simp only [c1, c2, c3, c4, c5, c6, c7, c8, c8', decide_true, decide_false, Bool.false_eq_true, if_true, if_false]; exact ⟨_, rfl, rfl⟩
  have c8' : ¬ I f.code.length = 0 := by simp only [I_eq] at c8 ⊢; omega
  by_cases c9 : 8192 < I f.code.length
  · simp only [c1, c2, c3, c4, c5, c6, c7, c8, c8', c9, decide_true, decide_false, Bool.false_eq_true, if_true, if_false]; exact ⟨_, rfl, rfl⟩
  simp only [c1, c2, c3, c4, c5, c6, c7, c8, c8', c9, decide_true, decide_false, Bool.false_eq_true, if_true, if_false]
  exact func_loop f (by omega) (by simp only [I_eq] at c9; omega) (by simp only [I_eq] at c8; omega) f.code.length 0 (by omega)

/-- Where a function of a name stands. -/
def fnd (nm : List UInt8) : List En.Dop.Fnc → Nat → Int
  | [], _ => -1
  | f :: r, k => if f.name = nm then I k else fnd nm r (k + 1)
set_option linter.unusedSimpArgs false in
theorem fnd_lt (nm : List UInt8) : ∀ (l : List En.Dop.Fnc) (k : Nat), fnd nm l k = -1 ∨ (0 ≤ fnd nm l k ∧ fnd nm l k < I (k + l.length))
  | [], k => .inl rfl
  | f :: r, k => by
    simp only [fnd]
    split
    · right; simp only [I_eq, List.length_cons]; omega
    · rcases fnd_lt nm r (k + 1) with h | h
      · exact .inl h
      · right; simp only [I_eq, List.length_cons] at h ⊢; omega
set_option linter.unusedSimpArgs false in
theorem m25_v (f : En.Dop.Fnc) (b : List UInt8) : Try.m25 f b = some ((decide (f.name = b), ()), ((b, ()), ())) := by rw [Try.m25_eq]
set_option linter.unusedSimpArgs false in
theorem find_loop (l : List En.Dop.Fnc) (nm : List UInt8) (hl : l.length < 1000000) : ∀ (n k : Nat), k + n = l.length →
    Try.m24_25_2 l (I l.length) (I k) nm = some ((fnd nm (l.drop k) k, ()), ((nm, ()), ()))
  | 0, k, h => by
    have e : k = l.length := by omega
    subst e
    rw [Try.m24_25_2_eq, List.drop_eq_nil_of_le (Nat.le_refl _)]
    simp only [I_nlt, decide_false, Bool.false_eq_true, if_false]
    rfl
  | n + 1, k, h => by
    have hk : k < l.length := by omega
    have ih := find_loop l nm hl n (k + 1) (by omega)
    rw [Try.m24_25_2_eq, drop_get Dop.d4 hk]
    simp only [I_lt hk, I_nn, I_nat, I_s, I_in hk hl, and_self, decide_true, if_true, m25_v, Option.bind, ih, fnd]
    by_cases c : (l.getD k Dop.d4).name = nm
    · simp only [c, decide_true, if_true]
    · simp only [c, decide_false, Bool.false_eq_true, if_false]
set_option linter.unusedSimpArgs false in
theorem m13_v (u : En.Dop.Unt) (nm : List UInt8) (hl : u.funcs.length < 1000000) : Try.m13 u nm = some ((fnd nm u.funcs 0, ()), ()) := by
  have := find_loop u.funcs nm hl u.funcs.length 0 (by omega)
  have e : Try.m24_25_2 u.funcs (I u.funcs.length) 0 nm = some ((fnd nm u.funcs 0, ()), ((nm, ()), ())) := this
  rw [Try.m13_eq, Try.m24_25_eq, e]
  rfl
set_option linter.unusedSimpArgs false in
theorem find_loop2 (u : En.Dop.Unt) (nm : List UInt8) (hl : u.funcs.length < 1000000) : ∀ (n k : Nat), k + n = u.funcs.length →
    Try.m14_2 nm (I k) u = some ((fnd nm (u.funcs.drop k) k, ()), ())
  | 0, k, h => by
    have e : k = u.funcs.length := by omega
    subst e
    rw [Try.m14_2_eq, List.drop_eq_nil_of_le (Nat.le_refl _)]
    simp only [I_nlt, decide_false, Bool.false_eq_true, if_false]
    rfl
  | n + 1, k, h => by
    have hk : k < u.funcs.length := by omega
    have ih := find_loop2 u nm hl n (k + 1) (by omega)
    rw [Try.m14_2_eq, drop_get Dop.d4 hk]
    simp only [I_lt hk, I_nn, I_nat, I_s, I_in hk hl, and_self, decide_true, if_true, ih, fnd]
    by_cases c : (u.funcs.getD k Dop.d4).name = nm
    · simp only [c, decide_true, if_true]
    · simp only [c, decide_false, Bool.false_eq_true, if_false]
set_option linter.unusedSimpArgs false in
theorem m14_v (u : En.Dop.Unt) (nm : List UInt8) (hl : u.funcs.length < 1000000) : Try.m14 u nm = some ((fnd nm u.funcs 0, ()), ()) := by
  have := find_loop2 u nm hl u.funcs.length 0 (by omega)
  rw [Try.m14_eq]
  exact this

set_option linter.unusedSimpArgs false in
/-- Units: a function's calls. -/
theorem call_loop (u : En.Dop.Unt) (k : Nat) (f : En.Dop.Fnc) (hl : u.funcs.length < 1000000) (hc : f.code.length < 1000000) (hk : k < u.funcs.length)
    (hnext : ∃ r, Try.m11_10 u.funcs (I u.funcs.length) (I (k + 1)) u = some ((r, ()), ()) ∧ Try.m12_10 (I (k + 1)) u = some ((r, ()), ())) : ∀ (n j : Nat), j + n = f.code.length →
    ∃ r, Try.m11_15 u.funcs (I u.funcs.length) (I k) f.code (I f.code.length) (I j) u = some ((r, ()), ()) ∧ Try.m12_16 (I k) (I j) u f = some ((r, ()), ())
  | 0, j, h => by
    have e : j = f.code.length := by omega
    subst e
    rw [Try.m11_15_eq, Try.m12_16_eq]
    simp only [I_nlt, decide_false, Bool.false_eq_true, if_false, I_s, I_in hk hl, if_true]
    exact hnext
  | n + 1, j, h => by
    have hj : j < f.code.length := by omega
    obtain ⟨r, k1, k2⟩ := call_loop u k f hl hc hk hnext n (j + 1) (by omega)
    rw [Try.m11_15_eq, Try.m12_16_eq]
    simp only [I_lt hj, I_nn, I_nat, I_s, I_in hj hc, and_self, decide_true, if_true, m13_v u _ hl, m14_v u _ hl, Option.bind, k1, k2]
    by_cases c : (f.code.getD j Dop.d3).kind = 8
    · simp only [c, decide_true, Bool.not_true, Bool.false_eq_true, if_false, if_true]
      rcases fnd_lt (f.code.getD j Dop.d3).text u.funcs 0 with h0 | ⟨h0, h1⟩
      · rw [h0]; exact ⟨false, rfl, rfl⟩
      · have h2 : ¬ fnd (f.code.getD j Dop.d3).text u.funcs 0 < 0 := by omega
        have h3 : fnd (f.code.getD j Dop.d3).text u.funcs 0 < I u.funcs.length := by simpa using h1
        simp only [h0, h2, h3, and_self, decide_true, decide_false, Bool.false_eq_true, if_false, if_true]
        by_cases c2 : (u.funcs.getD (fnd (f.code.getD j Dop.d3).text u.funcs 0).toNat Dop.d4).params = (f.code.getD j Dop.d3).n
        · simp only [c2, decide_true, Bool.not_true, Bool.false_eq_true, if_false]; exact ⟨r, rfl⟩
        · simp only [c2, decide_false, Bool.not_false, if_true]; exact ⟨false, rfl⟩
    · simp only [c, decide_false, Bool.not_false, Bool.false_eq_true, if_false, if_true]; exact ⟨r, rfl, rfl⟩
set_option linter.unusedSimpArgs false in
/-- A function that may be has no more than so many instructions. -/
theorem func_len (f : En.Dop.Fnc) (h : Try.m9 f = some ((true, ()), ())) : f.code.length < 1000000 := by
  apply Classical.byContradiction
  intro hn
  rw [Try.m9_eq] at h
  have c9 : 8192 < I f.code.length := by simp only [I_eq]; omega
  simp only [c9, decide_true, if_true] at h
  revert h
  repeat' split
  all_goals (intro h; cases h)
set_option linter.unusedSimpArgs false in
/-- Units: the functions. -/
theorem unit_loop (u : En.Dop.Unt) (hl : u.funcs.length < 1000000) : ∀ (n k : Nat), k + n = u.funcs.length →
    ∃ r, Try.m11_10 u.funcs (I u.funcs.length) (I k) u = some ((r, ()), ()) ∧ Try.m12_10 (I k) u = some ((r, ()), ())
  | 0, k, h => by
    have e : k = u.funcs.length := by omega
    subst e
    rw [Try.m11_10_eq, Try.m12_10_eq]
    simp only [I_nlt, decide_false, Bool.false_eq_true, if_false]
    exact ⟨_, rfl, rfl⟩
  | n + 1, k, h => by
    have hk : k < u.funcs.length := by omega
    have hnext := unit_loop u hl n (k + 1) (by omega)
    obtain ⟨q, q1, q2⟩ := func (u.funcs.getD k Dop.d4)
    rw [Try.m11_10_eq, Try.m12_10_eq]
    simp only [I_lt hk, I_nn, I_nat, and_self, decide_true, if_true, q1, q2, Option.bind, m13_v u _ hl, m14_v u _ hl]
    cases q
    · exact ⟨false, rfl, rfl⟩
    · simp only [Bool.not_true, Bool.false_eq_true, if_false]
      by_cases c : fnd (u.funcs.getD k Dop.d4).name u.funcs 0 = I k
      · simp only [c, decide_true, Bool.not_true, Bool.false_eq_true, if_false]
        exact call_loop u k (u.funcs.getD k Dop.d4) hl (func_len _ q1) hk hnext (u.funcs.getD k Dop.d4).code.length 0 (by omega)
      · simp only [c, decide_false, Bool.not_false, if_true]; exact ⟨false, rfl, rfl⟩
set_option linter.unusedSimpArgs false in
/-- Units: the globals. -/
theorem glob_loop (u : En.Dop.Unt) (hl : u.funcs.length < 1000000) (hg : u.globals.length < 1000000) (ht : 1 ≤ u.top ∧ u.top ≤ 4096) : ∀ (n k : Nat), k + n = u.globals.length →
    ∃ r, Try.m11_4 u.globals (I u.globals.length) (I k) u = some ((r, ()), ()) ∧ Try.m12_4 (I k) u = some ((r, ()), ())
  | 0, k, h => by
    have e : k = u.globals.length := by omega
    subst e
    rw [Try.m11_4_eq, Try.m12_4_eq]
    simp only [I_nlt, decide_false, Bool.false_eq_true, if_false]
    exact unit_loop u hl u.funcs.length 0 (by omega)
  | n + 1, k, h => by
    have hk : k < u.globals.length := by omega
    obtain ⟨r, k1, k2⟩ := glob_loop u hl hg ht n (k + 1) (by omega)
    rw [Try.m11_4_eq, Try.m12_4_eq]
    simp only [I_lt hk, I_nn, I_nat, I_s, I_in hk hg, and_self, decide_true, if_true, m22_v, m23_v, Option.bind, k1, k2]
    generalize u.globals.getD k Dop.d5 = g
    by_cases c1 : g.at_ < 1
    · simp only [c1, decide_true, if_true]; exact ⟨_, rfl, rfl⟩
    by_cases c2 : g.size < 0
    · simp only [c1, c2, decide_true, decide_false, Bool.false_eq_true, if_true, if_false]; exact ⟨_, rfl, rfl⟩
    by_cases c3 : u.top < g.size
    · simp only [c1, c2, c3, decide_true, decide_false, Bool.false_eq_true, if_true, if_false, ite_self]; exact ⟨_, rfl, rfl⟩
    have e1 : inR (u.top - g.size) = true := by rw [inR_iff]; omega
    by_cases c4 : u.top < g.at_
    · have c5 : u.top - g.size < g.at_ := by omega
      simp only [c1, c2, c3, c4, c5, e1, decide_true, decide_false, Bool.false_eq_true, if_true, if_false]; exact ⟨_, rfl, rfl⟩
    have e2 : inR (g.at_ + g.size) = true := by rw [inR_iff]; omega
    by_cases c5 : u.top - g.size < g.at_
    · have c6 : u.top < g.at_ + g.size := by omega
      simp only [c1, c2, c3, c4, c5, c6, e1, e2, decide_true, decide_false, Bool.false_eq_true, if_true, if_false]; exact ⟨_, rfl, rfl⟩
    have c6 : ¬ u.top < g.at_ + g.size := by omega
    simp only [c1, c2, c3, c4, c5, c6, e1, e2, decide_true, decide_false, Bool.false_eq_true, if_true, if_false]
    generalize (decide (-2147483648 ≤ g.init_) && decide (g.init_ ≤ 2147483647)) = x
    cases x
    · exact ⟨false, rfl, rfl⟩
    · exact ⟨r, rfl, rfl⟩
set_option linter.unusedSimpArgs false in
/-- WHETHER A UNIT MAY BE. -/
theorem unit (u : En.Dop.Unt) (hl : u.funcs.length < 1000000) (hg : u.globals.length < 1000000) : ∃ r, Try.m11 u = some ((r, ()), ()) ∧ Try.m12 u = some ((r, ()), ()) := by
  rw [Try.m11_eq, Try.m12_eq]
  by_cases c1 : 64 < I u.funcs.length
  · simp only [c1, decide_true, if_true]; exact ⟨_, rfl, rfl⟩
  by_cases c2 : u.top < 1
  · simp only [c1, c2, decide_true, decide_false, Bool.false_eq_true, if_true, if_false]; exact ⟨_, rfl, rfl⟩
  by_cases c3 : 4096 < u.top
  · simp only [c1, c2, c3, decide_true, decide_false, Bool.false_eq_true, if_true, if_false]; exact ⟨_, rfl, rfl⟩
  simp only [c1, c2, c3, decide_false, Bool.false_eq_true, if_false]
  exact glob_loop u hl hg (by omega) u.globals.length 0 (by omega)
end Go.Proofs.Law
