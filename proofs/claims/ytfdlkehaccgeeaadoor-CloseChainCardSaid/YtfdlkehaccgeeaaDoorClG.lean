/-
  Layer 18, plain: Classes beside the slow Table; one pair more.
-/
import Derived.Test.YtfdlkehaccgeeaaDoorClF
set_option maxHeartbeats 800000
namespace Go.Proofs.Law
open Go Go.En Go.Proofs

section
variable (o : List En.Dop.Rno) (p : List En.Dop.Pr) (hr : ArgsI o) (hf : ∀ x ∈ o, x.head.length ≤ 20 ∧ x.args.length ≤ 6) (hn : o.length ≤ 12) (hp : p.length ≤ 12)
include hn in
theorem cls12 (a b : Int) (t : List (List Bool)) (c : List Int) (ht : Tb o.length t) (hg : ∀ i j : Nat, i < o.length → j < o.length → (gT t i j = true ↔ CgO o p i j)) (hc : Leasts o.length (hdN (o.map nod)) (arN (o.map nod)) (prs p) c) (k : Nat) (hk : k < o.length) :
    ∀ (jj : Nat) (best : Int), jj ≤ o.length → Cg o.length (hdN (o.map nod)) (arN (o.map nod)) (prs p) (k : Int) best → (∀ j : Int, Cg o.length (hdN (o.map nod)) (arN (o.map nod)) (prs p) (k : Int) j → (jj : Int) ≤ j → best ≤ j) →
    Tryd.m3_12 o p a b t c (I k) best (I jj - 1) (I o.length) (I k) = Tryd.m3_8 o p a b t c (I o.length) (I (k + 1))
  | 0, best, hj, h1, h2 => by
    have c0 : ¬ (0 : Int) ≤ I 0 - 1 := by decide
    have hl := hc.1
    have hkc : k < c.length := by omega
    obtain ⟨b1, b2, b3⟩ := hc.2 k hk
    have e : c.getD k 0 = best := Int.le_antisymm (b3 _ h1) (h2 _ b2 b1)
    rw [Tryd.m3_12_eq]
    simp only [c0, I_lt hkc, hkc, I_nn, I_nat, I_s, I_in hk (show o.length < 1000000 by omega), e, and_self, decide_true, decide_false, if_true, Bool.not_true, Bool.false_eq_true, if_false]
  | jj + 1, best, hj, h1, h2 => by
    have hjl : jj < o.length := by omega
    have hl := ht.len
    have hrk := ht.row k hk
    have g1 : I k < I t.length := I_lt (by omega)
    have g2 : k < t.length := by omega
    have g3 : I jj < I (t.getD k []).length := I_lt (by omega)
    have g4 : jj < (t.getD k []).length := by omega
    have g5 : inR (I jj - 1) = true := by rw [inR_iff]; simp only [I_eq]; omega
    have hgj := hg k jj hk hjl
    unfold CgO CgN at hgj
    rw [lens_map] at hgj
    rw [Tryd.m3_12_eq, I_p]
    simp only [I_nn, I_nat, g1, g2, g3, g4, g5, and_self, decide_true, Bool.and_self, if_true]
    cases hx : gT t k jj with
    | true =>
      rw [if_pos (show (t.getD k []).getD jj false = true from hx)]
      exact cls12 a b t c ht hg hc k hk jj (I jj) (by omega) (hgj.1 hx) (fun j h3 h4 => by simp only [I_eq]; exact h4)
    | false =>
      rw [if_neg (by rw [show (t.getD k []).getD jj false = false from hx]; decide)]
      refine cls12 a b t c ht hg hc k hk jj best (by omega) h1 (fun j h3 h4 => ?_)
      by_cases e : j = (jj : Int)
      · subst e
        rw [hgj.2 h3] at hx; cases hx
      · exact h2 j h3 (by omega)
include hr hf hn hp in
theorem cls8 (a b : Int) (t : List (List Bool)) (c : List Int) (ht : Tb o.length t) (hg : ∀ i j : Nat, i < o.length → j < o.length → (gT t i j = true ↔ CgO o p i j)) (hc : Leasts o.length (hdN (o.map nod)) (arN (o.map nod)) (prs p) c) :
    ∀ (n k : Nat), k + n = o.length → Tryd.m3_8 o p a b t c (I o.length) (I k) = some ((true, ()), ())
  | 0, k, e => by
    have e : k = o.length := by omega
    subst e
    obtain ⟨r, r1, r2⟩ := same_v (o.map nod) p (by rw [lens_map]; omega) (small_map hr hf) (by omega) a b
    rw [lens_map] at r2
    have gv := given_v o (by omega) (fun x hx => (hf x hx).2)
    rw [Tryd.m3_8_eq]
    simp only [I_nlt, decide_false, Bool.false_eq_true, if_false, gv, r1, awake_v, Option.bind]
    have hno : ¬ (0 ≤ a ∧ a < I o.length ∧ 0 ≤ b ∧ b < I o.length) → r = false := fun h => by
      cases r with
      | false => rfl
      | true => exact absurd ⟨(r2.1 rfl).1, (r2.1 rfl).2.1, (r2.1 rfl).2.2.1, (r2.1 rfl).2.2.2.1⟩ h
    by_cases c1 : 0 ≤ a
    rotate_left
    · rw [hno (fun h => c1 h.1)]; simp only [c1, decide_false, Bool.false_eq_true, if_false, BEq.rfl, if_true]
    by_cases c2 : a < I o.length
    rotate_left
    · rw [hno (fun h => c2 h.2.1)]; simp only [c1, c2, decide_true, decide_false, Bool.false_eq_true, if_false, BEq.rfl, if_true]
    by_cases c3 : 0 ≤ b
    rotate_left
    · rw [hno (fun h => c3 h.2.2.1)]; simp only [c1, c2, c3, decide_true, decide_false, Bool.false_eq_true, if_false, BEq.rfl, if_true]
    by_cases c4 : b < I o.length
    rotate_left
    · rw [hno (fun h => c4 h.2.2.2)]; simp only [c1, c2, c3, c4, decide_true, decide_false, Bool.false_eq_true, if_false, BEq.rfl, if_true]
    have la : a.toNat < o.length := by simp only [I_eq] at c2; omega
    have lb : b.toNat < o.length := by simp only [I_eq] at c4; omega
    have hl := ht.len
    have hra := ht.row a.toNat la
    have g1 : a < I t.length := by rw [hl]; exact c2
    have g2 : a.toNat < t.length := by omega
    have g3 : b < I (t.getD a.toNat []).length := by rw [hra]; exact c4
    have g4 : b.toNat < (t.getD a.toNat []).length := by omega
    have e : r = (t.getD a.toNat []).getD b.toNat false := by
      have := hg a.toNat b.toNat la lb
      rw [show ((a.toNat : Nat) : Int) = a by omega, show ((b.toNat : Nat) : Int) = b by omega] at this
      have h2 : r = true ↔ gT t a.toNat b.toNat = true := r2.trans ⟨fun h => this.2 h.2.2.2.2, fun h => ⟨c1, c2, c3, c4, this.1 h⟩⟩
      show r = gT t a.toNat b.toNat
      cases r with
      | true => exact (h2.1 rfl).symm
      | false => cases hx : gT t a.toNat b.toNat with
        | false => rfl
        | true => exact absurd (h2.2 hx) (by decide)
    simp only [c1, c2, c3, c4, g1, g2, g3, g4, ← e, and_self, decide_true, Bool.and_self, BEq.rfl, if_true]
  | n + 1, k, e => by
    have hk : k < o.length := by omega
    rw [Tryd.m3_8_eq]
    simp only [I_lt hk, decide_true, if_true]
    have := cls12 o p hn a b t c ht hg hc k hk (k + 1) (I k) (by omega) (.refl _) (fun j h1 h2 => by simp only [I_eq]; omega)
    rw [I_p] at this
    rw [this]
    exact cls8 a b t c ht hg hc n (k + 1) (by omega)
end
theorem classes_law (o : List En.Dop.Rno) (p : List En.Dop.Pr) (a b : Int) (hr : ArgsI o) : Tryd.m3 o p a b = some ((true, ()), ()) := by
  rw [Tryd.m3_eq]
  obtain ⟨r, f1, f2⟩ := few_v o p
  cases r with
  | false => simp only [f1, Option.bind, Bool.not_false, if_true, awake_v]
  | true =>
    obtain ⟨hn, hp, hf⟩ := f2 rfl
    obtain ⟨c, c1, c2⟩ := classes_o o p hr hf hn (by omega)
    obtain ⟨t, t1, t2, t3⟩ := table_v (o := o) (p := p) (by omega) (fun x hx => (hf x hx).2) (by omega)
    simp only [f1, Option.bind, Bool.not_true, Bool.false_eq_true, if_false, given_v o (by omega) (fun x hx => (hf x hx).2), t1, c1, c2.1, decide_true]
    exact cls8 o p hr hf hn hp a b t c t2 t3 c2 o.length 0 (by omega)
/-! One pair more. -/
theorem more9 (c d : List Int) (s : Bool) (n : Nat) (hn : n ≤ 12) (hc : c.length = n) (hd : d.length = n) (h1 : ∀ i, i < n → 0 ≤ c.getD i 0 ∧ c.getD i 0 < I n ∧ d.getD i 0 ≤ c.getD i 0 ∧ d.getD i 0 = d.getD (c.getD i 0).toNat 0) (h2 : s = true → ∀ i, i < n → c.getD i 0 = d.getD i 0) : ∀ (m k : Nat), k + m = n → Tryd.m4_9 c d s (I n) (I k) = some ((true, ()), ())
  | 0, k, e => by
    have e : k = n := by omega
    subst e
    rw [Tryd.m4_9_eq]
    simp only [I_nlt, decide_false, Bool.false_eq_true, if_false, awake_v, Option.bind]
  | m + 1, k, e => by
    have hk : k < n := by omega
    have hkc : k < c.length := by omega
    have hkd : k < d.length := by omega
    have ih := more9 c d s n hn hc hd h1 h2 m (k + 1) (by omega)
    obtain ⟨a1, a2, a3, a4⟩ := h1 k hk
    have g1 : ¬ c.getD k 0 < d.getD k 0 := by omega
    have g2 : c.getD k 0 < I d.length := by rw [hd]; exact a2
    have g3 : (c.getD k 0).toNat < d.length := by simp only [I_eq] at a2; omega
    rw [Tryd.m4_9_eq]
    simp only [I_lt hk, I_lt hkc, I_lt hkd, hkc, hkd, I_nn, I_nat, I_s, I_in hk (show n < 1000000 by omega), g1, g2, g3, a1, ← a4, and_self, decide_true, decide_false, if_true, Bool.not_true, Bool.false_eq_true, if_false]
    cases s with
    | false => simp only [Bool.false_eq_true, if_false]; exact ih
    | true =>
      have := h2 rfl k hk
      simp only [this, decide_true, Bool.not_true, Bool.false_eq_true, if_false, if_true]; exact ih
theorem more_law (o : List En.Dop.Rno) (p : List En.Dop.Pr) (q : En.Dop.Pr) (hr : ArgsI o) : Tryd.m4 o p q = some ((true, ()), ()) := by
  rw [Tryd.m4_eq]
  obtain ⟨r, f1, f2⟩ := few_v o p
  cases r with
  | false => simp only [f1, Option.bind, Bool.not_false, if_true, awake_v]
  | true =>
    obtain ⟨hn, hp, hf⟩ := f2 rfl
    by_cases cp : 11 < I p.length
    · simp only [f1, Option.bind, Bool.not_true, Bool.false_eq_true, if_false, cp, decide_true, if_true, awake_v]
    have cp' : p.length ≤ 11 := by simp only [I_eq] at cp; omega
    obtain ⟨c, c1, c2⟩ := classes_o o p hr hf hn (by omega)
    obtain ⟨d, d1, d2⟩ := classes_o o (p ++ [q]) hr hf hn (by simp only [List.length_append, List.length_cons, List.length_nil]; omega)
    obtain ⟨s, s1, s2⟩ := same_v (o.map nod) p (by rw [lens_map]; omega) (small_map hr hf) (by omega) q.x0 q.x1
    rw [lens_map] at s2
    unfold CgN at s2
    rw [lens_map] at s2
    have z0 : (0 : Int) ≤ 0 ∧ (0 : Int) < I 2 := by decide
    have z1 : (0 : Int) ≤ 1 ∧ (1 : Int) < I 2 := by decide
    have hro : ∀ y : En.Dop.Pr, room 16 (p.length + [y].length) = true := fun y => room_s _ _ (by simp only [List.length_cons, List.length_nil]; omega)
    have hro2 : room 16 p.length = true := room_s _ _ (by omega)
    have hmono : ∀ {x y : Int}, Cg o.length (hdN (o.map nod)) (arN (o.map nod)) (prs p) x y → Cg o.length (hdN (o.map nod)) (arN (o.map nod)) (prs (p ++ [q])) x y := fun h => h.mono (fun a b h h1 h2 h3 h4 => .pair (by unfold prs at h ⊢; rw [List.map_append]; exact List.mem_append_left _ h) h1 h2 h3 h4)
    have fin : Tryd.m4_9 c d s (I o.length) 0 = some ((true, ()), ()) := by
      refine more9 c d s o.length hn c2.1 d2.1 (fun i hi => ?_) (fun hs i hi => ?_) o.length 0 (by omega)
      · obtain ⟨k1, k2, k3⟩ := c2.2 i hi
        obtain ⟨l1, l2, l3⟩ := d2.2 i hi
        have hle := (c2.le hi).2
        refine ⟨k1, by simp only [I_eq]; omega, l3 _ (hmono k2), ?_⟩
        rw [d2.iff hi (by omega), show (((c.getD i 0).toNat : Nat) : Int) = c.getD i 0 by omega]
        exact hmono k2
      · refine Leasts.uniq c2 ⟨d2.1, fun i hi => ?_⟩ hi
        obtain ⟨k1, k2, k3⟩ := d2.2 i hi
        refine ⟨k1, k2.mono (fun a b h h1 h2 h3 h4 => ?_), fun j hj => k3 j (hmono hj)⟩
        unfold prs at h
        rw [List.map_append] at h
        rcases List.mem_append.1 h with h | h
        · exact .pair h h1 h2 h3 h4
        · simp only [List.map_cons, List.map_nil, List.mem_cons, List.not_mem_nil, or_false, Prod.mk.injEq] at h
          obtain ⟨rfl, rfl⟩ := h
          exact (s2.1 hs).2.2.2.2
    simp only [f1, Option.bind, Bool.not_true, Bool.false_eq_true, if_false, cp, decide_false, given_v o (by omega) (fun x hx => (hf x hx).2), c1, andC, hro2, if_true]
    by_cases e : p.length = 0
    · have e' : p = [] := List.length_eq_zero_iff.1 e
      subst e'
      have hro3 : ∀ y : En.Dop.Pr, room 16 (([] : List En.Dop.Pr).length + [y].length) = true := hro
      simp only [e, hro3, decide_true, if_true]
      rw [d1]
      simp only [c2.1, d2.1, decide_true, Bool.not_true, Bool.false_eq_true, if_false, z0, z1, and_self, if_true, s1]
      exact fin
    · simp only [e, hro, decide_false, Bool.false_eq_true, if_false, if_true]
      rw [d1]
      simp only [c2.1, d2.1, decide_true, Bool.not_true, Bool.false_eq_true, if_false, z0, z1, and_self, if_true, s1]
      exact fin
end Go.Proofs.Law
