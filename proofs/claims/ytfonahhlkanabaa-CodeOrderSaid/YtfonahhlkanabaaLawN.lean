/-
  Layer 7, plain: what is known of a unit that may be.
-/
import Derived.Test.YtfonahhlkanabaaLawM
import Derived.Test.YtfonahhlkanabaaLawF
set_option maxRecDepth 20000
namespace Go.Proofs.Law
open Go Go.En Go.Proofs

/-- What is known of a function that may be. -/
structure FR (f : En.Dop.Fnc) : Prop where
  regs : 0 ≤ f.regs ∧ f.regs ≤ 4096
  frame : 0 ≤ f.frame ∧ f.frame ≤ 4096
  len : 1 ≤ f.code.length ∧ f.code.length < 1000000
  ins : ∀ j, j < f.code.length → Fine (f.code.getD j Dop.d3) f
  last : 11 ≤ (f.code.getD (f.code.length - 1) Dop.d3).kind
set_option linter.unusedSimpArgs false in
theorem fr_loop (f : En.Dop.Fnc) (hl : f.code.length < 1000000) (h1 : 1 ≤ f.code.length) : ∀ (n k : Nat), k + n = f.code.length →
    Try.m9_4 f.code (I f.code.length) (I k) f = some ((true, ()), ()) →
    (∀ j, k ≤ j → j < f.code.length → Try.m20 (f.code.getD j Dop.d3) f = some ((true, ()), ())) ∧ 11 ≤ (f.code.getD (f.code.length - 1) Dop.d3).kind
  | 0, k, h, hm => by
    have e : k = f.code.length := by omega
    subst e
    rw [Try.m9_4_eq] at hm
    have e1 : inR (I f.code.length - 1) = true := by rw [inR_iff]; simp only [I_eq]; omega
    have e2 : 0 ≤ I f.code.length - 1 ∧ I f.code.length - 1 < I f.code.length := by simp only [I_eq]; omega
    have e3 : (I f.code.length - 1).toNat = f.code.length - 1 := by simp only [I_eq]; omega
    simp only [I_nlt, decide_false, Bool.false_eq_true, if_false, e1, e2, e3, and_self, decide_true, if_true, Option.some.injEq, Prod.mk.injEq, and_true, decide_eq_true_eq] at hm
    exact ⟨fun j h1 h2 => by omega, hm⟩
  | n + 1, k, h, hm => by
    have hk : k < f.code.length := by omega
    rw [Try.m9_4_eq] at hm
    simp only [I_lt hk, I_nn, I_nat, I_s, I_in hk hl, and_self, decide_true, if_true] at hm
    obtain ⟨x, hx, hm⟩ := Option.bind_eq_some_iff.1 hm
    obtain ⟨⟨q, ⟨⟩⟩, ⟨⟩⟩ := x
    cases q
    · simp at hm
    · simp only [Bool.not_true, Bool.false_eq_true, if_false] at hm
      obtain ⟨k1, k2⟩ := fr_loop f hl h1 n (k + 1) (by omega) hm
      refine ⟨fun j j1 j2 => ?_, k2⟩
      by_cases e : j = k
      · subst e; exact hx
      · exact k1 j (by omega) j2
set_option linter.unusedSimpArgs false in
theorem fr (f : En.Dop.Fnc) (h : Try.m9 f = some ((true, ()), ())) : FR f := by
  rw [Try.m9_eq] at h
  have nx : ∀ {p : Prop} [Decidable p] {x : Option ((Bool × Unit) × Unit)}, (if decide p = true then some ((false, ()), ()) else x) = some ((true, ()), ()) → ¬ p ∧ x = some ((true, ()), ()) := by
    intro p _ x hx
    by_cases hp : p
    · simp [hp] at hx
    · exact ⟨hp, by simpa [hp] using hx⟩
  obtain ⟨c1, h⟩ := nx h
  obtain ⟨c2, h⟩ := nx h
  obtain ⟨c3, h⟩ := nx h
  obtain ⟨c4, h⟩ := nx h
  obtain ⟨c5, h⟩ := nx h
  obtain ⟨c6, h⟩ := nx h
  obtain ⟨c7, h⟩ := nx h
  obtain ⟨c8, h⟩ := nx h
  obtain ⟨c9, h⟩ := nx h
  have l1 : f.code.length < 1000000 := by simp only [I_eq] at c9; omega
  have l2 : 1 ≤ f.code.length := by simp only [I_eq] at c8; omega
  obtain ⟨k1, k2⟩ := fr_loop f l1 l2 f.code.length 0 (by omega) h
  exact { regs := by omega, frame := by omega, len := ⟨l2, l1⟩, ins := fun j hj => fine _ _ (k1 j (by omega) hj), last := k2 }

/-- What is known of a unit that may be. -/
structure UR (u : En.Dop.Unt) : Prop where
  fr : ∀ j, j < u.funcs.length → FR (u.funcs.getD j Dop.d4)
  nm : ∀ j, j < u.funcs.length → fnd (u.funcs.getD j Dop.d4).name u.funcs 0 = I j
  call : ∀ j, j < u.funcs.length → ∀ k, k < (u.funcs.getD j Dop.d4).code.length → ((u.funcs.getD j Dop.d4).code.getD k Dop.d3).kind = 8 → 0 ≤ fnd ((u.funcs.getD j Dop.d4).code.getD k Dop.d3).text u.funcs 0
  top : 1 ≤ u.top ∧ u.top ≤ 4096
  glob : ∀ j, j < u.globals.length → 1 ≤ (u.globals.getD j Dop.d5).at_
set_option linter.unusedSimpArgs false in
theorem ur_call (u : En.Dop.Unt) (k : Nat) (f : En.Dop.Fnc) (hl : u.funcs.length < 1000000) (hc : f.code.length < 1000000) (hk : k < u.funcs.length) : ∀ (n j : Nat), j + n = f.code.length →
    Try.m11_15 u.funcs (I u.funcs.length) (I k) f.code (I f.code.length) (I j) u = some ((true, ()), ()) →
    (∀ i, j ≤ i → i < f.code.length → (f.code.getD i Dop.d3).kind = 8 → 0 ≤ fnd (f.code.getD i Dop.d3).text u.funcs 0) ∧ Try.m11_10 u.funcs (I u.funcs.length) (I (k + 1)) u = some ((true, ()), ())
  | 0, j, h, hm => by
    have e : j = f.code.length := by omega
    subst e
    rw [Try.m11_15_eq] at hm
    simp only [I_nlt, decide_false, Bool.false_eq_true, if_false, I_s, I_in hk hl, if_true] at hm
    exact ⟨fun i h1 h2 => by omega, hm⟩
  | n + 1, j, h, hm => by
    have hj : j < f.code.length := by omega
    have ih := ur_call u k f hl hc hk n (j + 1) (by omega)
    rw [Try.m11_15_eq] at hm
    simp only [I_lt hj, I_nn, I_nat, I_s, I_in hj hc, and_self, decide_true, if_true, m13_v u _ hl, Option.bind] at hm
    by_cases c : (f.code.getD j Dop.d3).kind = 8
    · simp only [c, decide_true, Bool.not_true, Bool.false_eq_true, if_false, if_true] at hm
      rcases fnd_lt (f.code.getD j Dop.d3).text u.funcs 0 with h0 | ⟨h0, h1⟩
      · rw [h0] at hm; simp (decide := true) only [decide_true, if_true, Option.some.injEq, Prod.mk.injEq, Bool.false_eq_true, and_true, if_true, decide_true] at hm
      · have h2 : ¬ fnd (f.code.getD j Dop.d3).text u.funcs 0 < 0 := by omega
        have h3 : fnd (f.code.getD j Dop.d3).text u.funcs 0 < I u.funcs.length := by simpa using h1
        simp only [h0, h2, h3, and_self, decide_true, decide_false, Bool.false_eq_true, if_false, if_true] at hm
        by_cases c2 : (u.funcs.getD (fnd (f.code.getD j Dop.d3).text u.funcs 0).toNat Dop.d4).params = (f.code.getD j Dop.d3).n
        · simp only [c2, decide_true, Bool.not_true, Bool.false_eq_true, if_false] at hm
          obtain ⟨k1, k2⟩ := ih hm
          refine ⟨fun i i1 i2 i3 => ?_, k2⟩
          by_cases e : i = j
          · subst e; exact h0
          · exact k1 i (by omega) i2 i3
        · simp only [c2, decide_false, Bool.not_false, if_true, Option.some.injEq, Prod.mk.injEq, Bool.false_eq_true, and_true, false_and] at hm
    · simp only [c, decide_false, Bool.not_false, Bool.false_eq_true, if_false, if_true] at hm
      obtain ⟨k1, k2⟩ := ih hm
      refine ⟨fun i i1 i2 i3 => ?_, k2⟩
      by_cases e : i = j
      · subst e; exact absurd i3 c
      · exact k1 i (by omega) i2 i3
set_option linter.unusedSimpArgs false in
theorem ur_func (u : En.Dop.Unt) (hl : u.funcs.length < 1000000) : ∀ (n k : Nat), k + n = u.funcs.length →
    Try.m11_10 u.funcs (I u.funcs.length) (I k) u = some ((true, ()), ()) →
    ∀ j, k ≤ j → j < u.funcs.length → FR (u.funcs.getD j Dop.d4) ∧ fnd (u.funcs.getD j Dop.d4).name u.funcs 0 = I j ∧
      ∀ k, k < (u.funcs.getD j Dop.d4).code.length → ((u.funcs.getD j Dop.d4).code.getD k Dop.d3).kind = 8 → 0 ≤ fnd ((u.funcs.getD j Dop.d4).code.getD k Dop.d3).text u.funcs 0
  | 0, k, h, hm => fun j h1 h2 => by omega
  | n + 1, k, h, hm => by
    have hk : k < u.funcs.length := by omega
    rw [Try.m11_10_eq] at hm
    simp only [I_lt hk, I_nn, I_nat, and_self, decide_true, if_true, m13_v u _ hl] at hm
    obtain ⟨x, hx, hm⟩ := Option.bind_eq_some_iff.1 hm
    obtain ⟨⟨q, ⟨⟩⟩, ⟨⟩⟩ := x
    cases q
    · simp at hm
    · simp only [Bool.not_true, Bool.false_eq_true, if_false, Option.bind] at hm
      by_cases c : fnd (u.funcs.getD k Dop.d4).name u.funcs 0 = I k
      · simp only [c, decide_true, Bool.not_true, Bool.false_eq_true, if_false] at hm
        obtain ⟨k1, k2⟩ := ur_call u k (u.funcs.getD k Dop.d4) hl (func_len _ hx) hk (u.funcs.getD k Dop.d4).code.length 0 (by omega) hm
        have ih := ur_func u hl n (k + 1) (by omega) k2
        intro j j1 j2
        by_cases e : j = k
        · subst e; exact ⟨fr _ hx, c, fun i i1 i2 => k1 i (by omega) i1 i2⟩
        · exact ih j (by omega) j2
      · simp only [c, decide_false, Bool.not_false, if_true, Option.some.injEq, Prod.mk.injEq, Bool.false_eq_true, and_true, false_and] at hm
set_option linter.unusedSimpArgs false in
theorem ur_glob (u : En.Dop.Unt) (hg : u.globals.length < 1000000) : ∀ (n k : Nat), k + n = u.globals.length →
    Try.m11_4 u.globals (I u.globals.length) (I k) u = some ((true, ()), ()) →
    (∀ j, k ≤ j → j < u.globals.length → 1 ≤ (u.globals.getD j Dop.d5).at_) ∧ Try.m11_10 u.funcs (I u.funcs.length) (I 0) u = some ((true, ()), ())
  | 0, k, h, hm => by
    have e : k = u.globals.length := by omega
    subst e
    rw [Try.m11_4_eq] at hm
    simp only [I_nlt, decide_false, Bool.false_eq_true, if_false] at hm
    exact ⟨fun j h1 h2 => by omega, hm⟩
  | n + 1, k, h, hm => by
    have hk : k < u.globals.length := by omega
    have ih := ur_glob u hg n (k + 1) (by omega)
    rw [Try.m11_4_eq] at hm
    simp only [I_lt hk, I_nn, I_nat, I_s, I_in hk hg, and_self, decide_true, if_true, m22_v, Option.bind] at hm
    by_cases c1 : (u.globals.getD k Dop.d5).at_ < 1
    · simp only [c1, decide_true, if_true, Option.some.injEq, Prod.mk.injEq, Bool.false_eq_true, and_true, false_and] at hm
    · have : Try.m11_4 u.globals (I u.globals.length) (I (k + 1)) u = some ((true, ()), ()) := by
        revert hm
        repeat' split
        all_goals first | exact id | (intro hm; cases hm; done) | skip
      obtain ⟨k1, k2⟩ := ih this
      refine ⟨fun j j1 j2 => ?_, k2⟩
      by_cases e : j = k
      · subst e; omega
      · exact k1 j (by omega) j2
set_option linter.unusedSimpArgs false in
/-- WHAT IS KNOWN OF A UNIT THAT MAY BE. -/
theorem ur (u : En.Dop.Unt) (hl : u.funcs.length < 1000000) (hg : u.globals.length < 1000000) (h : Try.m11 u = some ((true, ()), ())) : UR u := by
  rw [Try.m11_eq] at h
  have nx : ∀ {p : Prop} [Decidable p] {x : Option ((Bool × Unit) × Unit)}, (if decide p = true then some ((false, ()), ()) else x) = some ((true, ()), ()) → ¬ p ∧ x = some ((true, ()), ()) := by
    intro p _ x hx
    by_cases hp : p
    · simp [hp] at hx
    · exact ⟨hp, by simpa [hp] using hx⟩
  obtain ⟨c1, h⟩ := nx h
  obtain ⟨c2, h⟩ := nx h
  obtain ⟨c3, h⟩ := nx h
  obtain ⟨k1, k2⟩ := ur_glob u hg u.globals.length 0 (by omega) h
  have k3 := ur_func u hl u.funcs.length 0 (by omega) k2
  exact { fr := fun j hj => (k3 j (by omega) hj).1, nm := fun j hj => (k3 j (by omega) hj).2.1, call := fun j hj => (k3 j (by omega) hj).2.2, top := by omega, glob := fun j hj => k1 j (by omega) hj }
end Go.Proofs.Law
