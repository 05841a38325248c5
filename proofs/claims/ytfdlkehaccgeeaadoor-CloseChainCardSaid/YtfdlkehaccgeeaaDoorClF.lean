/-
  Layer 18, plain: the laws that read Classes.
-/
import Derived.Test.YtfdlkehaccgeeaaDoorClE
set_option maxHeartbeats 800000
namespace Go.Proofs.Law
open Go Go.En Go.Proofs

theorem I_p (a : Nat) : I (a + 1) - 1 = I a := by simp only [I_eq]; omega
/-! Few. -/
theorem few_loop (l : List En.Dop.Rno) (p : List En.Dop.Pr) : ∀ (n k : Nat), k + n = l.length → k ≤ 13 →
    ∃ r, Tryd.m8_2 l p (I k) = some ((r, ()), ()) ∧ (r = true → l.length ≤ 12 ∧ p.length ≤ 12 ∧ ∀ i, k ≤ i → i < l.length → (l.getD i Dop.d3).head.length ≤ 20 ∧ (l.getD i Dop.d3).args.length ≤ 6)
  | 0, k, e, hk => by
    have e : k = l.length := by omega
    subst e
    rw [Tryd.m8_2_eq]
    simp only [I_nlt, decide_false, Bool.false_eq_true, if_false]
    by_cases c : I l.length ≤ 12
    · simp only [c, decide_true, if_true]
      refine ⟨_, rfl, fun h => ?_⟩
      rw [decide_eq_true_eq] at h
      simp only [I_eq] at c h
      exact ⟨by omega, by omega, fun i h1 h2 => by omega⟩
    · simp only [c, decide_false, Bool.false_eq_true, if_false]
      exact ⟨_, rfl, fun h => by cases h⟩
  | n + 1, k, e, hk => by
    have hkl : k < l.length := by omega
    rw [Tryd.m8_2_eq]
    by_cases c : I k ≤ 12
    · have c' : k ≤ 12 := by simp only [I_eq] at c; omega
      obtain ⟨r, h1, h2⟩ := few_loop l p n (k + 1) (by omega) (by omega)
      simp only [I_lt hkl, I_nn, I_nat, I_s, inR_iff, c, and_self, decide_true, if_true]
      by_cases c1 : 20 < I (l.getD k Dop.d3).head.length
      · simp only [c1, decide_true, if_true]
        exact ⟨_, rfl, fun h => by cases h⟩
      by_cases c2 : 6 < I (l.getD k Dop.d3).args.length
      · simp only [c1, c2, decide_true, decide_false, Bool.false_eq_true, if_false, if_true]
        exact ⟨_, rfl, fun h => by cases h⟩
      have c3 : -9223372036854775808 ≤ I (k + 1) ∧ I (k + 1) ≤ 9223372036854775807 := by simp only [I_eq]; omega
      simp only [c1, c2, c3, and_self, decide_true, decide_false, Bool.false_eq_true, if_false, if_true]
      refine ⟨r, h1, fun h => ?_⟩
      obtain ⟨k1, k2, k3⟩ := h2 h
      simp only [I_eq] at c1 c2
      refine ⟨k1, k2, fun i b1 b2 => ?_⟩
      by_cases e : i = k
      · subst e; omega
      · exact k3 i (by omega) b2
    · have c2 : ¬ I l.length ≤ 12 := by simp only [I_eq] at c ⊢; omega
      simp only [I_lt hkl, c, c2, decide_true, decide_false, if_true, Bool.false_eq_true, if_false]
      exact ⟨_, rfl, fun h => by cases h⟩
theorem few_v (l : List En.Dop.Rno) (p : List En.Dop.Pr) : ∃ r, Tryd.m8 l p = some ((r, ()), ()) ∧ (r = true → l.length ≤ 12 ∧ p.length ≤ 12 ∧ ∀ x ∈ l, x.head.length ≤ 20 ∧ x.args.length ≤ 6) := by
  rw [Tryd.m8_eq]
  have e0 : I 0 = 0 := rfl
  obtain ⟨r, h1, h2⟩ := few_loop l p l.length 0 (by omega) (by omega)
  rw [e0] at h1
  refine ⟨r, h1, fun h => ?_⟩
  obtain ⟨k1, k2, k3⟩ := h2 h
  refine ⟨k1, k2, fun x hx => ?_⟩
  obtain ⟨i, hi, he⟩ := List.getElem_of_mem hx
  have := k3 i (by omega) hi
  rwa [show l.getD i Dop.d3 = x by simp [List.getD, hi, he]] at this
/-! Awake. -/
def W4 : List En.Dop.Nod := [⟨[97], []⟩, ⟨[98], []⟩, ⟨[102], [0]⟩, ⟨[102], [1]⟩]
theorem W4_small : ∀ x ∈ W4, SmallN x := by
  intro x hx
  simp only [W4, List.mem_cons, List.not_mem_nil, or_false] at hx
  rcases hx with rfl | rfl | rfl | rfl <;> refine ⟨by decide, by decide, ?_⟩ <;> intro a ha <;> simp only [List.mem_cons, List.not_mem_nil, or_false] at ha <;> omega
theorem W4_no (a b : Int) (h : CgN W4 [] a b) : a = b := by
  refine Cg.least (R := fun a b => a = b) (fun _ => rfl) (fun _ _ h => h.symm) (fun _ _ _ h h' => h.trans h') (fun a b h => by cases h) (fun i j h1 h2 h3 h4 h5 => ?_) h
  have e : W4.length = 4 := rfl
  rw [e] at h1 h2
  have hi : i = 0 ∨ i = 1 ∨ i = 2 ∨ i = 3 := by omega
  have hj : j = 0 ∨ j = 1 ∨ j = 2 ∨ j = 3 := by omega
  rcases hi with rfl | rfl | rfl | rfl <;> rcases hj with rfl | rfl | rfl | rfl <;> first
    | rfl
    | exact absurd h3 (by decide)
    | exact absurd (h5 0 (by decide)) (by decide)
theorem W4_yes : CgN W4 [⟨0, 1⟩] 2 3 := by
  refine .cong 2 3 (by decide) (by decide) rfl rfl (fun k hk => ?_)
  have : k = 0 := by simp [arN, W4] at hk; omega
  subst this
  exact .pair (by simp [prs, arN, W4]) (by decide) (by decide) (by decide) (by decide)
theorem awake_v : Tryd.m9 = some ((true, ()), ()) := by
  rw [Tryd.m9_eq]
  obtain ⟨r1, a1, a2⟩ := same_v W4 [⟨0, 1⟩] (by decide) W4_small (by decide) 2 3
  obtain ⟨r2, b1, b2⟩ := same_v W4 [] (by decide) W4_small (by decide) 2 3
  obtain ⟨c, c1, c2⟩ := classes_v W4 [] (by decide) W4_small (by decide)
  have h1 : r1 = true := a2.2 ⟨by decide, by decide, by decide, by decide, W4_yes⟩
  have h2 : r2 = false := by
    cases r2 with
    | false => rfl
    | true => exact absurd (W4_no _ _ (b2.1 rfl).2.2.2.2) (by decide)
  subst h1 h2
  have hl : c.length = 4 := c2.1
  show (Tryd.m13 W4 [⟨0, 1⟩] 2 3).bind _ = _
  rw [a1]
  show (Tryd.m13 W4 [] 2 3).bind _ = _
  rw [b1]
  show (Tryd.m11 W4 []).bind _ = _
  rw [c1]
  simp only [Option.bind, hl]
  rfl
/-- Arguments are ints. -/
def ArgsI (o : List En.Dop.Rno) : Prop := ∀ x ∈ o, ∀ a ∈ x.args, -9223372036854775808 ≤ a ∧ a ≤ 9223372036854775807
theorem small_map {o : List En.Dop.Rno} (h : ArgsI o) (hf : ∀ x ∈ o, x.head.length ≤ 20 ∧ x.args.length ≤ 6) : ∀ x ∈ o.map nod, SmallN x := by
  intro x hx
  obtain ⟨y, hy, rfl⟩ := List.mem_map.1 hx
  exact ⟨(hf y hy).1, (hf y hy).2, h y hy⟩
theorem prs_get {p : List En.Dop.Pr} {k : Nat} (h : k < p.length) : ((p.getD k Dop.d5).x0, (p.getD k Dop.d5).x1) ∈ prs p := List.mem_map.2 ⟨_, by simp [List.getD, h], rfl⟩

/-! Holds. -/
section
variable (o : List En.Dop.Rno) (p : List En.Dop.Pr) (hr : ArgsI o) (hf : ∀ x ∈ o, x.head.length ≤ 20 ∧ x.args.length ≤ 6) (hn : o.length ≤ 12) (hp : p.length ≤ 12)
theorem holds14 (c : List Int) (hc : Leasts o.length (hdN (o.map nod)) (arN (o.map nod)) (prs p) c) (hp : p.length ≤ 12) : ∀ (n k : Nat), k + n = p.length → Tryd.m5_14 o c p (I p.length) (I k) = some ((true, ()), ())
  | 0, k, e => by
    have e : k = p.length := by omega
    subst e
    rw [Tryd.m5_14_eq]
    simp only [I_nlt, decide_false, Bool.false_eq_true, if_false, awake_v, Option.bind]
  | n + 1, k, e => by
    have hk : k < p.length := by omega
    have ih := holds14 c hc hp n (k + 1) (by omega)
    have z0 : (0 : Int) ≤ 0 ∧ (0 : Int) < I 2 := by decide
    have z1 : (0 : Int) ≤ 1 ∧ (1 : Int) < I 2 := by decide
    have hm := prs_get hk
    rw [Tryd.m5_14_eq]
    obtain ⟨q, hq⟩ : ∃ q, p.getD k Dop.d5 = q := ⟨_, rfl⟩
    rw [hq] at hm
    simp only [I_lt hk, I_nn, I_nat, I_s, I_in hk (show p.length < 1000000 by omega), z0, z1, hq, and_self, decide_true, if_true]
    by_cases c1 : 0 ≤ q.x0
    rotate_left
    · simp only [c1, decide_false, Bool.false_eq_true, if_false]; exact ih
    by_cases c3 : q.x0 < I o.length
    rotate_left
    · simp only [c1, c3, decide_true, decide_false, Bool.false_eq_true, if_false, if_true]; exact ih
    by_cases c2 : 0 ≤ q.x1
    rotate_left
    · simp only [c1, c2, c3, decide_true, decide_false, Bool.false_eq_true, if_false, if_true]; exact ih
    by_cases c4 : q.x1 < I o.length
    rotate_left
    · simp only [c1, c2, c3, c4, decide_true, decide_false, Bool.false_eq_true, if_false, if_true]; exact ih
    have hl := hc.1
    have d1 : q.x0 < I c.length := by rw [hl]; exact c3
    have d2 : q.x1 < I c.length := by rw [hl]; exact c4
    have d3 : q.x0.toNat < c.length := by simp only [I_eq] at d1; omega
    have d4 : q.x1.toNat < c.length := by simp only [I_eq] at d2; omega
    have e : c.getD q.x0.toNat 0 = c.getD q.x1.toNat 0 := by
      rw [hc.iff (by omega) (by omega)]
      rw [show ((q.x0.toNat : Nat) : Int) = q.x0 by omega, show ((q.x1.toNat : Nat) : Int) = q.x1 by omega]
      simp only [I_eq] at c3 c4
      exact .pair hm c1 c3 c2 c4
    simp only [c1, c2, c3, c4, d1, d2, d3, d4, e, and_self, decide_true, if_true, Bool.not_true, Bool.false_eq_true, if_false]
    exact ih
include hr hf hn hp
theorem holds8 (c : List Int) (hc : Leasts o.length (hdN (o.map nod)) (arN (o.map nod)) (prs p) c) : ∀ (n k : Nat), k + n = o.length → Tryd.m5_8 o p (o.map nod) c (I o.length) (I k) = some ((true, ()), ())
  | 0, k, e => by
    have e : k = o.length := by omega
    subst e
    rw [Tryd.m5_8_eq]
    simp only [I_nlt, decide_false, Bool.false_eq_true, if_false]
    exact holds14 o p c hc hp p.length 0 (by omega)
  | n + 1, k, e => by
    have hk : k < o.length := by omega
    have ih := holds8 c hc n (k + 1) (by omega)
    have hl := hc.1
    have hkc : k < c.length := by omega
    obtain ⟨a1, a2⟩ := hc.le hk
    obtain ⟨b1, b2, b3⟩ := hc.2 k hk
    obtain ⟨m, hm⟩ : ∃ m : Nat, c.getD k 0 = I m := ⟨(c.getD k 0).toNat, by simp only [I_eq]; omega⟩
    rw [hm] at a1 a2 b1 b2 b3
    have hmk : m ≤ k := by simp only [I_eq] at a2; omega
    have hml : m < c.length := by omega
    have c1 : ¬ I m < 0 := by simp only [I_eq]; omega
    have c2 : ¬ I k < I m := by simp only [I_eq]; omega
    have c3 : c.getD m 0 = I m := by rw [← hm, hc.iff (by omega) hk]; exact b2.symm
    have hlm : (o.map nod).length = o.length := by simp
    obtain ⟨r, r1, r2⟩ := same_v (o.map nod) p (by omega) (small_map hr hf) (by omega) (I k) (I m)
    have hrt : r = true := r2.2 ⟨I_nn _, by rw [hlm]; exact I_lt hk, I_nn _, by rw [hlm]; exact I_lt (by omega), by unfold CgN; rw [hlm]; exact b2⟩
    subst hrt
    rw [Tryd.m5_8_eq]
    simp only [I_lt hk, I_lt hkc, hkc, I_nn, I_nat, I_s, I_in hk (show o.length < 1000000 by omega), hm, c1, c2, I_lt hml, hml, c3, r1, Option.bind, and_self, decide_true, decide_false, if_true, Bool.not_true, Bool.false_eq_true, if_false]
    exact ih
end
theorem lens_map (o : List En.Dop.Rno) : (o.map nod).length = o.length := by simp
theorem classes_o (o : List En.Dop.Rno) (p : List En.Dop.Pr) (hr : ArgsI o) (hf : ∀ x ∈ o, x.head.length ≤ 20 ∧ x.args.length ≤ 6) (hn : o.length ≤ 12) (hp : p.length ≤ 13) : ∃ c : List Int, Tryd.m11 (o.map nod) p = some ((c, ()), ()) ∧ Leasts o.length (hdN (o.map nod)) (arN (o.map nod)) (prs p) c := by
  have := classes_v (o.map nod) p (by rw [lens_map]; omega) (small_map hr hf) (by omega)
  rwa [lens_map] at this
theorem holds_v (o : List En.Dop.Rno) (p : List En.Dop.Pr) (hr : ArgsI o) : Tryd.m5 o p = some ((true, ()), ()) := by
  rw [Tryd.m5_eq]
  obtain ⟨r, f1, f2⟩ := few_v o p
  cases r with
  | false => simp only [f1, Option.bind, Bool.not_false, if_true, awake_v]
  | true =>
    obtain ⟨hn, hp, hf⟩ := f2 rfl
    obtain ⟨c, c1, c2⟩ := classes_o o p hr hf hn (by omega)
    simp only [f1, Option.bind, Bool.not_true, Bool.false_eq_true, if_false, given_v o (by omega) (fun x hx => (hf x hx).2), c1, c2.1, decide_true]
    exact holds8 o p hr hf hn hp c c2 o.length 0 (by omega)
/-! Order. -/
theorem order13 (c d : List Int) (n : Nat) (hn : n ≤ 12) (hc : c.length = n) (hd : d.length = n) (h : ∀ i, i < n → c.getD i 0 = d.getD i 0) : ∀ (m k : Nat), k + m = n → Tryd.m7_13 c d (I n) (I k) = some ((true, ()), ())
  | 0, k, e => by
    have e : k = n := by omega
    subst e
    rw [Tryd.m7_13_eq]
    simp only [I_nlt, decide_false, Bool.false_eq_true, if_false, awake_v, Option.bind]
  | m + 1, k, e => by
    have hk : k < n := by omega
    have hkc : k < c.length := by omega
    have hkd : k < d.length := by omega
    rw [Tryd.m7_13_eq]
    simp only [I_lt hk, I_lt hkc, I_lt hkd, hkc, hkd, I_nn, I_nat, I_s, I_in hk (show n < 1000000 by omega), h k hk, and_self, decide_true, if_true, Bool.not_true, Bool.false_eq_true, if_false]
    exact order13 c d n hn hc hd h m (k + 1) (by omega)
def turn (q : En.Dop.Pr) : En.Dop.Pr := ⟨q.x1, q.x0⟩
theorem order5 (o : List En.Dop.Rno) (p : List En.Dop.Pr) (hp : p.length ≤ 12) : ∀ (n k : Nat) (d : List En.Dop.Pr), k + n = p.length → d.length = k → (∀ q, q ∈ d → turn q ∈ p) → (∀ j, j < k → turn (p.getD j Dop.d5) ∈ d) →
    ∃ d', d'.length = p.length ∧ (∀ q, q ∈ d' → turn q ∈ p) ∧ (∀ j, j < p.length → turn (p.getD j Dop.d5) ∈ d') ∧ Tryd.m7_5 o p d p (I p.length) (I k) = Tryd.m7_5 o p d' p (I p.length) (I p.length)
  | 0, k, d, e, hl, h1, h2 => by
    have e : k = p.length := by omega
    subst e
    exact ⟨d, hl, h1, h2, rfl⟩
  | n + 1, k, d, e, hl, h1, h2 => by
    have hk : k < p.length := by omega
    obtain ⟨d', r1, r2, r3, r4⟩ := order5 o p hp n (k + 1) (turn (p.getD k Dop.d5) :: d) (by omega) (by simp [hl]) (fun q hq => by
      rcases List.mem_cons.1 hq with h | h
      · subst h; show p.getD k Dop.d5 ∈ p; simp [List.getD, hk]
      · exact h1 q h) (fun j hj => by
      by_cases e : j = k
      · subst e; exact List.mem_cons_self
      · exact List.mem_cons_of_mem _ (h2 j (by omega)))
    refine ⟨d', r1, r2, r3, ?_⟩
    have z0 : (0 : Int) ≤ 0 ∧ (0 : Int) < I 2 := by decide
    have z1 : (0 : Int) ≤ 1 ∧ (1 : Int) < I 2 := by decide
    have hro : ∀ y : En.Dop.Pr, room 16 ([y].length + d.length) = true := fun y => room_s _ _ (by simp only [List.length_cons, List.length_nil]; omega)
    conv => lhs; rw [Tryd.m7_5_eq]
    simp only [I_lt hk, I_nn, I_nat, I_s, I_in hk (show p.length < 1000000 by omega), z0, z1, hro, andC, and_self, decide_true, if_true]
    exact r4
theorem order_v (o : List En.Dop.Rno) (p : List En.Dop.Pr) (hr : ArgsI o) : Tryd.m7 o p = some ((true, ()), ()) := by
  rw [Tryd.m7_eq]
  obtain ⟨r, f1, f2⟩ := few_v o p
  cases r with
  | false => simp only [f1, Option.bind, Bool.not_false, if_true, awake_v]
  | true =>
    obtain ⟨hn, hp, hf⟩ := f2 rfl
    obtain ⟨d, d1, d2, d3, d4⟩ := order5 o p hp p.length 0 [] (by omega) rfl (fun q h => by cases h) (fun j h => by omega)
    have e0 : I 0 = 0 := rfl
    rw [e0] at d4
    obtain ⟨c, c1, c2⟩ := classes_o o p hr hf hn (by omega)
    obtain ⟨e, e1, e2⟩ := classes_o o d hr hf hn (by omega)
    simp only [f1, Option.bind, Bool.not_true, Bool.false_eq_true, if_false]
    rw [d4, Tryd.m7_5_eq]
    simp only [I_nlt, decide_false, Bool.false_eq_true, if_false, given_v o (by omega) (fun x hx => (hf x hx).2), Option.bind, c1, e1, c2.1, e2.1, decide_true, Bool.not_true]
    refine order13 c e o.length hn c2.1 e2.1 (fun i hi => ?_) o.length 0 (by omega)
    have hpd : ∀ a b, (a, b) ∈ prs p → (b, a) ∈ prs d := fun a b h => by
      obtain ⟨q, hq, e⟩ := List.mem_map.1 h
      obtain ⟨j, hj, hj'⟩ := List.getElem_of_mem hq
      have := d3 j hj
      rw [show p.getD j Dop.d5 = q by simp [List.getD, hj, hj']] at this
      simp only [Prod.mk.injEq] at e
      obtain ⟨rfl, rfl⟩ := e
      exact List.mem_map.2 ⟨_, this, rfl⟩
    have hdp : ∀ a b, (a, b) ∈ prs d → (b, a) ∈ prs p := fun a b h => by
      obtain ⟨q, hq, e⟩ := List.mem_map.1 h
      have := d2 q hq
      simp only [Prod.mk.injEq] at e
      obtain ⟨rfl, rfl⟩ := e
      exact List.mem_map.2 ⟨_, this, rfl⟩
    refine Leasts.uniq c2 ⟨e2.1, fun i hi => ?_⟩ hi
    obtain ⟨k1, k2, k3⟩ := e2.2 i hi
    exact ⟨k1, k2.mono (fun a b h h1 h2 h3 h4 => (Cg.pair (hdp a b h) h3 h4 h1 h2).symm), fun j hj => k3 j (hj.mono (fun a b h h1 h2 h3 h4 => (Cg.pair (hpd a b h) h3 h4 h1 h2).symm))⟩
end Go.Proofs.Law
