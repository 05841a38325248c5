/-
  Layer 7, plain: the law CodeOrder: what a right unit is hangs not on the functions' order, nor on the globals' names.
-/
import Derived.Test.YtfonahhlkanabaaLawS
set_option maxRecDepth 20000
set_option maxHeartbeats 800000
namespace Go.Proofs.Law
open Go Go.En Go.Proofs

/-- A global that may be. -/
def GOK (top : Int) (g : En.Dop.Glb) : Prop := 1 ≤ g.at_ ∧ 0 ≤ g.size ∧ g.size ≤ top ∧ g.at_ ≤ top - g.size ∧ -2147483648 ≤ g.init_ ∧ g.init_ ≤ 2147483647
/-- A call that may be. -/
def COK (fs : List En.Dop.Fnc) (i : En.Dop.Ins) : Prop := 0 ≤ fnd i.text fs 0 ∧ (fs.getD (fnd i.text fs 0).toNat Dop.d4).params = i.n
set_option linter.unusedSimpArgs false in
theorem rt_call (u : En.Dop.Unt) (k : Nat) (f : En.Dop.Fnc) (hl : u.funcs.length < 1000000) (hc : f.code.length < 1000000) (hk : k < u.funcs.length) : ∀ (n j : Nat), j + n = f.code.length →
    (Try.m11_15 u.funcs (I u.funcs.length) (I k) f.code (I f.code.length) (I j) u = some ((true, ()), ()) ↔
    (∀ i, j ≤ i → i < f.code.length → (f.code.getD i Dop.d3).kind = 8 → COK u.funcs (f.code.getD i Dop.d3)) ∧ Try.m11_10 u.funcs (I u.funcs.length) (I (k + 1)) u = some ((true, ()), ()))
  | 0, j, h => by
    have e : j = f.code.length := by omega
    subst e
    rw [Try.m11_15_eq]
    simp only [I_nlt, decide_false, Bool.false_eq_true, if_false, I_s, I_in hk hl, if_true]
    exact ⟨fun h => ⟨fun i h1 h2 => by omega, h⟩, fun h => h.2⟩
  | n + 1, j, h => by
    have hj : j < f.code.length := by omega
    have ih := rt_call u k f hl hc hk n (j + 1) (by omega)
    have hsp : ∀ P : Prop, ((f.code.getD j Dop.d3).kind = 8 → COK u.funcs (f.code.getD j Dop.d3)) → (((∀ i, j + 1 ≤ i → i < f.code.length → (f.code.getD i Dop.d3).kind = 8 → COK u.funcs (f.code.getD i Dop.d3)) ∧ P) ↔ (∀ i, j ≤ i → i < f.code.length → (f.code.getD i Dop.d3).kind = 8 → COK u.funcs (f.code.getD i Dop.d3)) ∧ P) := fun P hj0 => by
      refine ⟨fun h => ⟨fun i i1 i2 i3 => ?_, h.2⟩, fun h => ⟨fun i i1 i2 i3 => h.1 i (by omega) i2 i3, h.2⟩⟩
      by_cases e : i = j
      · subst e; exact hj0 i3
      · exact h.1 i (by omega) i2 i3
    rw [Try.m11_15_eq]
    simp only [I_lt hj, I_nn, I_nat, I_s, I_in hj hc, and_self, decide_true, if_true, m13_v u _ hl, Option.bind]
    by_cases c : (f.code.getD j Dop.d3).kind = 8
    · simp only [c, decide_true, Bool.not_true, Bool.false_eq_true, if_false, if_true]
      rcases fnd_lt (f.code.getD j Dop.d3).text u.funcs 0 with h0 | ⟨h0, h1⟩
      · have h2 : fnd (f.code.getD j Dop.d3).text u.funcs 0 < 0 := by omega
        simp only [h2, decide_true, if_true]
        exact ⟨fun h => by simp at h, fun h => absurd (h.1 j (Nat.le_refl _) hj c).1 (by omega)⟩
      · have h2 : ¬ fnd (f.code.getD j Dop.d3).text u.funcs 0 < 0 := by omega
        have h3 : fnd (f.code.getD j Dop.d3).text u.funcs 0 < I u.funcs.length := by simpa using h1
        simp only [h0, h2, h3, and_self, decide_true, decide_false, Bool.false_eq_true, if_false, if_true]
        by_cases c2 : (u.funcs.getD (fnd (f.code.getD j Dop.d3).text u.funcs 0).toNat Dop.d4).params = (f.code.getD j Dop.d3).n
        · simp only [c2, decide_true, Bool.not_true, Bool.false_eq_true, if_false]
          rw [ih]
          exact hsp _ fun _ => ⟨h0, c2⟩
        · simp only [c2, decide_false, Bool.not_false, if_true]
          exact ⟨fun h => by simp at h, fun h => absurd (h.1 j (Nat.le_refl _) hj c).2 c2⟩
    · simp only [c, decide_false, Bool.not_false, Bool.false_eq_true, if_false, if_true]
      rw [ih]
      exact hsp _ fun h => absurd h c
/-- A function that may be, where it stands. -/
def FOK (u : En.Dop.Unt) (j : Nat) : Prop := Try.m9 (u.funcs.getD j Dop.d4) = some ((true, ()), ()) ∧ fnd (u.funcs.getD j Dop.d4).name u.funcs 0 = I j ∧
  ∀ i, i < (u.funcs.getD j Dop.d4).code.length → ((u.funcs.getD j Dop.d4).code.getD i Dop.d3).kind = 8 → COK u.funcs ((u.funcs.getD j Dop.d4).code.getD i Dop.d3)
set_option linter.unusedSimpArgs false in
theorem rt_func (u : En.Dop.Unt) (hl : u.funcs.length < 1000000) : ∀ (n k : Nat), k + n = u.funcs.length →
    (Try.m11_10 u.funcs (I u.funcs.length) (I k) u = some ((true, ()), ()) ↔ ∀ j, k ≤ j → j < u.funcs.length → FOK u j)
  | 0, k, h => by
    have e : k = u.funcs.length := by omega
    subst e
    rw [Try.m11_10_eq]
    simp only [I_nlt, decide_false, Bool.false_eq_true, if_false, true_iff]
    exact fun j h1 h2 => by omega
  | n + 1, k, h => by
    have hk : k < u.funcs.length := by omega
    have ih := rt_func u hl n (k + 1) (by omega)
    obtain ⟨q, hq, -⟩ := func (u.funcs.getD k Dop.d4)
    rw [Try.m11_10_eq]
    simp only [I_lt hk, I_nn, I_nat, and_self, decide_true, if_true, m13_v u _ hl, hq, Option.bind]
    cases q with
    | false =>
      simp only [Bool.not_false, if_true]
      refine ⟨fun h => by simp at h, fun h => ?_⟩
      have := (h k (Nat.le_refl _) hk).1
      rw [hq] at this
      simp at this
    | true =>
      simp only [Bool.not_true, Bool.false_eq_true, if_false]
      by_cases c : fnd (u.funcs.getD k Dop.d4).name u.funcs 0 = I k
      · simp only [c, decide_true, Bool.not_true, Bool.false_eq_true, if_false]
        have := rt_call u k (u.funcs.getD k Dop.d4) hl (func_len _ hq) hk (u.funcs.getD k Dop.d4).code.length 0 (by omega)
        rw [I_0] at this
        rw [this, ih]
        refine ⟨fun h j j1 j2 => ?_, fun h => ⟨fun i i1 i2 i3 => (h k (Nat.le_refl _) hk).2.2 i i2 i3, fun j j1 j2 => h j (by omega) j2⟩⟩
        by_cases e : j = k
        · subst e; exact ⟨hq, c, fun i i1 i2 => h.1 i (by omega) i1 i2⟩
        · exact h.2 j (by omega) j2
      · simp only [c, decide_false, Bool.not_false, if_true]
        exact ⟨fun h => by simp at h, fun h => absurd (h k (Nat.le_refl _) hk).2.1 c⟩
set_option linter.unusedSimpArgs false in
theorem rt_glob (u : En.Dop.Unt) (ht : 1 ≤ u.top ∧ u.top ≤ 4096) (hg : u.globals.length < 1000000) : ∀ (n k : Nat), k + n = u.globals.length →
    (Try.m11_4 u.globals (I u.globals.length) (I k) u = some ((true, ()), ()) ↔ (∀ j, k ≤ j → j < u.globals.length → GOK u.top (u.globals.getD j Dop.d5)) ∧ Try.m11_10 u.funcs (I u.funcs.length) (I 0) u = some ((true, ()), ()))
  | 0, k, h => by
    have e : k = u.globals.length := by omega
    subst e
    rw [Try.m11_4_eq]
    simp only [I_nlt, decide_false, Bool.false_eq_true, if_false]
    exact ⟨fun h => ⟨fun j h1 h2 => by omega, h⟩, fun h => h.2⟩
  | n + 1, k, h => by
    have hk : k < u.globals.length := by omega
    have ih := rt_glob u ht hg n (k + 1) (by omega)
    have no : ∀ P : Prop, ¬ GOK u.top (u.globals.getD k Dop.d5) → (some (((false : Bool), ()), ()) = some ((true, ()), ()) ↔ (∀ j, k ≤ j → j < u.globals.length → GOK u.top (u.globals.getD j Dop.d5)) ∧ P) := fun P hno =>
      ⟨fun h => by simp at h, fun h => absurd (h.1 k (Nat.le_refl _) hk) hno⟩
    rw [Try.m11_4_eq]
    simp only [I_lt hk, I_nn, I_nat, I_s, I_in hk hg, and_self, decide_true, if_true, m22_v, Option.bind]
    by_cases c1 : (u.globals.getD k Dop.d5).at_ < 1
    · simp only [c1, decide_true, if_true]; exact no _ fun h => absurd h.1 (by omega)
    by_cases c2 : (u.globals.getD k Dop.d5).size < 0
    · simp only [c1, c2, decide_true, decide_false, Bool.false_eq_true, if_false, if_true]; exact no _ fun h => absurd h.2.1 (by omega)
    by_cases c3 : u.top < (u.globals.getD k Dop.d5).size
    · simp only [c1, c2, c3, decide_true, decide_false, Bool.false_eq_true, if_false, if_true]; exact no _ fun h => absurd h.2.2.1 (by omega)
    have ci : inR (u.top - (u.globals.getD k Dop.d5).size) = true := by rw [inR_iff]; omega
    by_cases c4 : u.top - (u.globals.getD k Dop.d5).size < (u.globals.getD k Dop.d5).at_
    · simp only [c1, c2, c3, c4, ci, decide_true, decide_false, Bool.false_eq_true, if_false, if_true]; exact no _ fun h => absurd h.2.2.2.1 (by omega)
    by_cases c5 : -2147483648 ≤ (u.globals.getD k Dop.d5).init_
    rotate_left
    · simp only [c1, c2, c3, c4, c5, ci, decide_true, decide_false, Bool.false_and, Bool.not_false, Bool.false_eq_true, if_false, if_true]; exact no _ fun h => absurd h.2.2.2.2.1 c5
    by_cases c6 : (u.globals.getD k Dop.d5).init_ ≤ 2147483647
    rotate_left
    · simp only [c1, c2, c3, c4, c5, c6, ci, decide_true, decide_false, Bool.and_false, Bool.not_false, Bool.false_eq_true, if_false, if_true]; exact no _ fun h => absurd h.2.2.2.2.2 c6
    simp only [c1, c2, c3, c4, c5, c6, ci, decide_true, decide_false, Bool.and_self, Bool.not_true, Bool.false_eq_true, if_false, if_true]
    rw [ih]
    refine ⟨fun h => ⟨fun j j1 j2 => ?_, h.2⟩, fun h => ⟨fun j j1 j2 => h.1 j (by omega) j2, h.2⟩⟩
    by_cases e : j = k
    · subst e; exact ⟨by omega, by omega, by omega, by omega, c5, c6⟩
    · exact h.1 j (by omega) j2
/-- WHAT A RIGHT UNIT IS. -/
def RightP (u : En.Dop.Unt) : Prop := u.funcs.length ≤ 64 ∧ 1 ≤ u.top ∧ u.top ≤ 4096 ∧ (∀ j, j < u.globals.length → GOK u.top (u.globals.getD j Dop.d5)) ∧ ∀ j, j < u.funcs.length → FOK u j
theorem right_iff (u : En.Dop.Unt) (hl : u.funcs.length < 1000000) (hg : u.globals.length < 1000000) : Try.m11 u = some ((true, ()), ()) ↔ RightP u := by
  unfold RightP
  rw [Try.m11_eq]
  by_cases c1 : 64 < I u.funcs.length
  · simp only [c1, decide_true, if_true]
    simp only [I_eq] at c1
    exact ⟨fun h => by simp at h, fun h => absurd h.1 (by omega)⟩
  by_cases c2 : u.top < 1
  · simp only [c1, c2, decide_true, decide_false, Bool.false_eq_true, if_false, if_true]
    exact ⟨fun h => by simp at h, fun h => absurd h.2.1 (by omega)⟩
  by_cases c3 : 4096 < u.top
  · simp only [c1, c2, c3, decide_true, decide_false, Bool.false_eq_true, if_false, if_true]
    exact ⟨fun h => by simp at h, fun h => absurd h.2.2.1 (by omega)⟩
  simp only [c1, c2, c3, decide_false, Bool.false_eq_true, if_false]
  have h1 := rt_glob u (by omega) hg u.globals.length 0 (by omega)
  have h2 := rt_func u hl u.funcs.length 0 (by omega)
  rw [h2, I_0] at h1
  rw [h1]
  simp only [I_eq] at c1
  exact ⟨fun h => ⟨by omega, by omega, by omega, fun j hj => h.1 j (by omega) hj, fun j hj => h.2 j (by omega) hj⟩, fun h => ⟨fun j _ hj => h.2.2.2.1 j hj, fun j _ hj => h.2.2.2.2 j hj⟩⟩
end Go.Proofs.Law
