/-
  The document's white space, numbers, bytes between quotes are the plain ones.
-/
import Derived.Test.YtcifaokahhbflaaDoorLxF
namespace Go.Proofs.Law
open Go Go.En Go.Proofs

set_option linter.unusedSimpArgs false in
theorem inI {n : Nat} (h : n ≤ 2000000) : inR (I n) = true := by rw [inR_iff]; simp only [I_eq]; omega
set_option linter.unusedSimpArgs false in
theorem I_add (a b : Nat) : I a + I b = I (a + b) := by simp only [I_eq]; omega
set_option linter.unusedSimpArgs false in
theorem I_add2 (a : Nat) : I a + 2 = I (a + 2) := by simp only [I_eq]; omega
set_option linter.unusedSimpArgs false in
theorem I_add3 (a : Nat) : I a + 3 = I (a + 3) := by simp only [I_eq]; omega
set_option linter.unusedSimpArgs false in
theorem I_le {a b : Nat} (h : a ≤ b) : I a ≤ I b := by simp only [I_eq]; omega
set_option linter.unusedSimpArgs false in
theorem I_nle {a b : Nat} (h : b < a) : ¬ I a ≤ I b := by simp only [I_eq]; omega
set_option linter.unusedSimpArgs false in
theorem I_nlt' {a b : Nat} (h : b ≤ a) : ¬ I a < I b := by simp only [I_eq]; omega
set_option linter.unusedSimpArgs false in
theorem len2 (a b : UInt8) : ([a, b] : List UInt8).length ≤ 1000000 := by simp only [List.length_cons, List.length_nil]; omega
set_option linter.unusedSimpArgs false in
/-- Whether a text stands in another one from a place on. -/
theorem at_v (o : List UInt8) (k : Nat) (t : List UInt8) (ho : o.length ≤ 1000000) (hk : k ≤ o.length) (ht : t.length ≤ 1000000) : Tryd.m28 o (I k) t = some ((t.isPrefixOf (o.drop k), ()), ()) := by
  rw [Tryd.m28_eq, I_add]
  by_cases h : k + t.length ≤ o.length
  · have e : List.drop (I k).toNat (List.take (I (k + t.length)).toNat o) = (o.drop k).take t.length := by
      rw [I_nat, I_nat, List.drop_take, Nat.add_sub_cancel_left]
    simp only [inI (n := k + t.length) (by omega), I_le h, I_nn, I_le (Nat.le_add_right k t.length), and_self, decide_true, if_true, e]
    have : decide ((o.drop k).take t.length = t) = t.isPrefixOf (o.drop k) := by
      rw [Bool.eq_iff_iff, decide_eq_true_eq, List.isPrefixOf_iff_prefix, List.prefix_iff_eq_take, eq_comm]
    rw [this]
  · have : t.isPrefixOf (o.drop k) = false := by
      cases hp : t.isPrefixOf (o.drop k) with
      | false => rfl
      | true =>
        have := (List.isPrefixOf_iff_prefix.1 hp).length_le
        rw [List.length_drop] at this
        omega
    simp only [inI (n := k + t.length) (by omega), I_nle (Nat.lt_of_not_le h), decide_false, Bool.false_eq_true, if_false, if_true, this]
set_option linter.unusedSimpArgs false in
theorem pre2_p (c a b : UInt8) (r : List UInt8) : (a :: b :: @List.nil UInt8).isPrefixOf (c :: r) = decide (c = a ∧ r.head? = some b) := pre2_v c a b r
set_option linter.unusedSimpArgs false in
theorem eol_loop (o : List UInt8) (ho : o.length ≤ 1000000) : ∀ (u : List UInt8) (k : Nat), o.drop k = u → k ≤ o.length → Tryd.m23_5 o (I k) = Tryd.m23_1 o (I (o.length - (Sc.eol u).length))
  | [], k, h, hk => by
    have hl : 0 = o.length - k := by rw [← List.length_drop, h]; rfl
    have : k = o.length := by omega
    subst this
    rw [Tryd.m23_5_eq]
    simp only [I_nlt, decide_false, Bool.false_eq_true, if_false, Sc.eol, List.length_nil, Nat.sub_zero]
  | c :: r, k, h, hk => by
    have hlt := drop_lt h
    have hl : r.length + 1 = o.length - k := by rw [← List.length_drop, h]; rfl
    have b10 : ((c.toNat : Int) = 10) ↔ c = 10 := byte_is c 10 (by decide)
    rw [Tryd.m23_5_eq]
    simp only [I_lt hlt, I_nn, and_self, decide_true, if_true, strAt_v h, b10, I_s, inI (n := k + 1) (by omega), Sc.eol]
    by_cases h1 : c = 10
    · simp only [h1, decide_true, Bool.not_true, Bool.false_eq_true, if_false, if_true, List.length_cons, hl, show o.length - (o.length - k) = k by omega]
    · simp only [h1, decide_false, Bool.not_false, if_true, if_false]
      exact eol_loop o ho r (k + 1) (drop_s h) hlt
set_option linter.unusedSimpArgs false in
theorem eoc_loop (o : List UInt8) (ho : o.length ≤ 1000000) (j : Int) : ∀ (u : List UInt8) (k : Nat), o.drop k = u → k ≤ o.length → Tryd.m23_9 o j (I k) = match Sc.eoc u with
      | none => some ((j, (false, ())), ())
      | some x => Tryd.m23_1 o (I (o.length - x.length))
  | [], k, h, hk => by
    have hl : 0 = o.length - k := by rw [← List.length_drop, h]; rfl
    have : k = o.length := by omega
    subst this
    rw [Tryd.m23_9_eq]
    simp only [I_nlt, decide_false, Bool.false_eq_true, if_false, Sc.eoc, Int.le_refl, decide_true, if_true]
  | c :: r, k, h, hk => by
    have hlt := drop_lt h
    have hl : r.length + 1 = o.length - k := by rw [← List.length_drop, h]; rfl
    rw [Tryd.m23_9_eq]
    simp only [I_lt hlt, decide_true, if_true, at_v o k _ ho hk (len2 42 47)]
    simp only [Option.bind, h, pre2_p, I_s, inI (n := k + 1) (by omega), Sc.eoc, I_add2, inI (n := k + 2) (by omega)]
    by_cases h1 : c = 42 ∧ r.head? = some 47
    · cases r with
      | nil => simp at h1
      | cons b r =>
        simp only [List.length_cons] at hl
        simp only [h1, and_self, decide_true, Bool.not_true, Bool.false_eq_true, if_false, I_nle hlt, decide_false, if_true, List.tail_cons, show o.length - r.length = k + 2 by omega]
    · simp only [h1, decide_false, Bool.not_false, if_true, if_false]
      exact eoc_loop o ho j r (k + 1) (drop_s h) hlt
set_option linter.unusedSimpArgs false in
theorem ws_or (c : UInt8) : Sc.ws c = (decide (c = 32) || decide (c = 9) || decide (c = 10) || decide (c = 13)) := by
  unfold Sc.ws
  simp only [Bool.beq_eq_decide_eq]
set_option linter.unusedSimpArgs false in
theorem skip_v2 (o : List UInt8) (ho : o.length ≤ 1000000) : ∀ u : List UInt8, ∀ k, o.drop k = u → k ≤ o.length → Tryd.m23_1 o (I k) = some ((I (o.length - (Sc.skipL u).1.length), ((Sc.skipL u).2, ())), ()) := by
  have b32 : ∀ c : UInt8, ((c.toNat : Int) = 32) ↔ c = 32 := fun c => byte_is c 32 (by decide)
  have b9 : ∀ c : UInt8, ((c.toNat : Int) = 9) ↔ c = 9 := fun c => byte_is c 9 (by decide)
  have b10 : ∀ c : UInt8, ((c.toNat : Int) = 10) ↔ c = 10 := fun c => byte_is c 10 (by decide)
  have b13 : ∀ c : UInt8, ((c.toNat : Int) = 13) ↔ c = 13 := fun c => byte_is c 13 (by decide)
  have base : ∀ u k, o.drop k = u → k ≤ o.length → u.length = o.length - k := fun u k h _ => by rw [← h, List.length_drop]
  have l2 := len2
  have not_ws : ∀ c : UInt8, Sc.ws c = false → c ≠ 32 ∧ c ≠ 9 ∧ c ≠ 10 ∧ c ≠ 13 := fun c h => by
    rw [ws_or] at h
    simp only [Bool.or_eq_false_iff, decide_eq_false_iff_not] at h
    exact ⟨h.1.1.1, h.1.1.2, h.1.2, h.2⟩
  refine Sc.skip_ind ?_ ?_ ?_ ?_ ?_ ?_
  · intro k h hk
    have hl := base _ _ h hk
    have : k = o.length := by simp only [List.length_nil] at hl; omega
    subst this
    rw [Tryd.m23_1_eq, Sc.skip_nil]
    simp only [I_nlt, decide_false, Bool.false_eq_true, if_false, List.length_nil, Nat.sub_zero]
  all_goals intro c r
  · intro hw ih k h hk
    have hlt := drop_lt h
    have hn := ih (k + 1) (drop_s h) hlt
    have hw' := hw
    rw [ws_or] at hw'
    rw [Tryd.m23_1_eq, Sc.skip_ws _ hw]
    simp only [I_lt hlt, I_nn, and_self, decide_true, if_true, strAt_v h, b32, b9, b10, b13, I_s, inI (n := k + 1) (by omega), hn]
    by_cases h1 : c = 32
    · simp only [h1, decide_true, if_true]
    · by_cases h2 : c = 9
      · simp only [h1, h2, decide_true, decide_false, Bool.false_eq_true, if_false, if_true, ite_self]
      · by_cases h3 : c = 10
        · simp only [h1, h2, h3, decide_true, decide_false, Bool.false_eq_true, if_false, if_true, ite_self]
        · by_cases h4 : c = 13
          · simp only [h1, h2, h3, h4, decide_true, decide_false, Bool.false_eq_true, if_false, if_true, ite_self]
          · simp [h1, h2, h3, h4] at hw'
  · rintro hw ⟨rfl, h2⟩ ih k h hk
    have hlt := drop_lt h
    have he : Sc.eol (47 :: r) = Sc.eol r := rfl
    have hel := Sc.eol_le (47 :: r)
    have hl := base _ _ h hk
    obtain ⟨q, hq, _⟩ := Sc.eol_suf (47 :: r)
    have e1 : (47 :: 47 :: @List.nil UInt8).isPrefixOf (47 :: r) = true := by rw [pre2_p, h2]; rfl
    have n1 : ¬ ((47 : UInt8) = 32) := by decide
    have n2 : ¬ ((47 : UInt8) = 9) := by decide
    have n3 : ¬ ((47 : UInt8) = 10) := by decide
    have n4 : ¬ ((47 : UInt8) = 13) := by decide
    rw [Tryd.m23_1_eq, Sc.skip_line hw ⟨rfl, h2⟩]
    simp only [I_lt hlt, I_nn, and_self, decide_true, if_true, strAt_v h, b32, b9, b10, b13, n1, n2, n3, n4, decide_false, Bool.false_eq_true, if_false, at_v o k _ ho hk (l2 _ _)]
    simp only [Option.bind, if_true, Bool.false_eq_true, if_false, decide_true, decide_false, h, e1]
    rw [eol_loop o ho _ k h hk, he]
    refine ih _ ?_ (by omega)
    have e3 : o.length - (Sc.eol r).length = k + q.length := by
      have := congrArg List.length hq
      rw [List.length_append, he] at this
      rw [he] at hel
      omega
    rw [e3, ← List.drop_drop, h, hq, List.drop_left]
    exact he
  · rintro hw ⟨rfl, h2⟩ h3 k h hk
    have hlt := drop_lt h
    have hl := base _ _ h hk
    cases r with
    | nil => simp at h2
    | cons b r =>
    simp only [List.head?_cons, Option.some.injEq] at h2
    subst h2
    have e1 : (47 :: 47 :: @List.nil UInt8).isPrefixOf (47 :: 42 :: r) = false := by rw [pre2_p]; rfl
    have e2 : (47 :: 42 :: @List.nil UInt8).isPrefixOf (47 :: 42 :: r) = true := by rw [pre2_p]; rfl
    have n1 : ¬ ((47 : UInt8) = 32) := by decide
    have n2 : ¬ ((47 : UInt8) = 9) := by decide
    have n3 : ¬ ((47 : UInt8) = 10) := by decide
    have n4 : ¬ ((47 : UInt8) = 13) := by decide
    have hd2 : o.drop (k + 2) = r := by rw [← List.drop_drop, h]; rfl
    simp only [List.length_cons] at hl
    rw [Tryd.m23_1_eq, Sc.skip_bad hw ⟨rfl, rfl⟩ h3]
    simp only [I_lt hlt, I_nn, and_self, decide_true, if_true, strAt_v h, b32, b9, b10, b13, n1, n2, n3, n4, decide_false, Bool.false_eq_true, if_false, at_v o k _ ho hk (l2 _ _)]
    simp only [Option.bind, if_true, Bool.false_eq_true, if_false, decide_true, decide_false, h, e1, e2, I_add2, inI (n := k + 2) (by omega)]
    rw [eoc_loop o ho _ r (k + 2) hd2 (by omega)]
    simp only [List.tail_cons] at h3
    rw [h3]
    simp only [List.length_cons, hl, show o.length - (o.length - k) = k by omega]
  · rintro x hw ⟨rfl, h2⟩ h3 ih k h hk
    have hlt := drop_lt h
    have hl := base _ _ h hk
    cases r with
    | nil => simp at h2
    | cons b r =>
    simp only [List.head?_cons, Option.some.injEq] at h2
    subst h2
    have e1 : (47 :: 47 :: @List.nil UInt8).isPrefixOf (47 :: 42 :: r) = false := by rw [pre2_p]; rfl
    have e2 : (47 :: 42 :: @List.nil UInt8).isPrefixOf (47 :: 42 :: r) = true := by rw [pre2_p]; rfl
    have n1 : ¬ ((47 : UInt8) = 32) := by decide
    have n2 : ¬ ((47 : UInt8) = 9) := by decide
    have n3 : ¬ ((47 : UInt8) = 10) := by decide
    have n4 : ¬ ((47 : UInt8) = 13) := by decide
    have hd2 : o.drop (k + 2) = r := by rw [← List.drop_drop, h]; rfl
    simp only [List.length_cons] at hl
    rw [Tryd.m23_1_eq, Sc.skip_com hw ⟨rfl, rfl⟩ h3]
    simp only [I_lt hlt, I_nn, and_self, decide_true, if_true, strAt_v h, b32, b9, b10, b13, n1, n2, n3, n4, decide_false, Bool.false_eq_true, if_false, at_v o k _ ho hk (l2 _ _)]
    simp only [Option.bind, if_true, Bool.false_eq_true, if_false, decide_true, decide_false, h, e1, e2, I_add2, inI (n := k + 2) (by omega)]
    rw [eoc_loop o ho _ r (k + 2) hd2 (by omega)]
    simp only [List.tail_cons] at h3
    rw [h3]
    obtain ⟨q, hq⟩ := Sc.eoc_suf _ _ h3
    have e3 : o.length - x.length = k + 2 + q.length := by
      have := congrArg List.length hq
      rw [List.length_append] at this
      omega
    refine ih _ ?_ (by omega)
    rw [e3, ← List.drop_drop, hd2, hq, List.drop_left]
  · intro hw h2 h3 k h hk
    have hlt := drop_lt h
    have hl := base _ _ h hk
    obtain ⟨n1, n2, n3, n4⟩ := not_ws c hw
    have e1 : (47 :: 47 :: @List.nil UInt8).isPrefixOf (c :: r) = false := by rw [pre2_p]; exact decide_eq_false h2
    have e2 : (47 :: 42 :: @List.nil UInt8).isPrefixOf (c :: r) = false := by rw [pre2_p]; exact decide_eq_false h3
    rw [Tryd.m23_1_eq, Sc.skip_not hw h2 h3]
    simp only [I_lt hlt, I_nn, and_self, decide_true, if_true, strAt_v h, b32, b9, b10, b13, n1, n2, n3, n4, decide_false, Bool.false_eq_true, if_false, at_v o k _ ho hk (l2 _ _)]
    simp only [Option.bind, if_true, Bool.false_eq_true, if_false, decide_true, decide_false, h, e1, e2, hl, show o.length - (o.length - k) = k by omega]
set_option linter.unusedSimpArgs false in
theorem skips_v2 (o : List UInt8) (ho : o.length ≤ 1000000) (k : Nat) (hk : k ≤ o.length) : Tryd.m23 o (I k) = some ((I (o.length - (Sc.skipL (o.drop k)).1.length), ((Sc.skipL (o.drop k)).2, ())), ()) := by
  rw [Tryd.m23_eq]
  exact skip_v2 o ho _ k rfl hk
set_option linter.unusedSimpArgs false in
theorem hex_v2 (c : UInt8) : Tryd.m44 (c.toNat : Int) = some (((Sc.hexB c : Int), ()), ()) := by
  have hc := c.toNat_lt
  rw [Tryd.m44_eq, dig_v2]
  simp only [Option.bind, inB, if_true]
  have i1 : ∀ n : Nat, n ≤ 300 → inR ((c.toNat : Int) - (n : Int)) = true := fun n hn => by rw [inR_iff]; omega
  have i2 : ∀ n : Nat, n ≤ 300 → inR ((c.toNat : Int) - (n : Int) + 10) = true := fun n hn => by rw [inR_iff]; omega
  have j1 := i1 48 (by decide)
  have j2 := i1 97 (by decide)
  have j3 := i1 65 (by decide)
  have j4 := i2 97 (by decide)
  have j5 := i2 65 (by decide)
  simp only [Int.cast_ofNat_Int] at j1 j2 j3 j4 j5
  unfold Sc.hexB
  cases h : Sc.digB c with
  | true =>
    have h' : 48 ≤ c.toNat := by simp only [Sc.digB, decide_eq_true_eq] at h; exact h.1
    simp only [if_true, j1, Option.some.injEq, Prod.mk.injEq, and_true]
    omega
  | false =>
    simp only [Bool.false_eq_true, if_false, decide_eq_true_eq, j2, j3, j4, j5, if_true]
    repeat' split
    all_goals simp only [Option.some.injEq, Prod.mk.injEq, and_true]
    all_goals omega
set_option linter.unusedSimpArgs false in
theorem digits_v2 (s : List UInt8) (hs : s.length ≤ 1000000) (hne : s ≠ []) (base : Nat) (hb : base = 10 ∨ base = 16) : ∀ (u : List UInt8) (k n : Nat), s.drop k = u → k ≤ s.length → n ≤ 4294967295 → Tryd.m26_9 s (base : Int) (n : Int) (I k) = some (numR (Sc.digits base n u))
  | [], k, n, h, hk, hn => by
    have hl : 0 = s.length - k := by rw [← List.length_drop, h]; rfl
    have : k = s.length := by omega
    subst this
    have hp : (0 : Int) < I s.length := by
      cases s with
      | nil => exact absurd rfl hne
      | cons c r => simp only [I_eq, List.length_cons]; omega
    rw [Tryd.m26_9_eq]
    simp only [I_nlt, decide_false, Bool.false_eq_true, if_false, hp, decide_true, Sc.digits, numR]
  | c :: r, k, n, h, hk, hn => by
    have hlt := drop_lt h
    rw [Tryd.m26_9_eq]
    simp only [I_lt hlt, I_nn, I_s, and_self, decide_true, if_true, strAt_v h, hex_v2, Option.bind, inI (n := k + 1) (by omega), Sc.digits]
    by_cases g2 : base ≤ Sc.hexB c
    · have g3 : (base : Int) ≤ (Sc.hexB c : Int) := by omega
      simp only [g2, g3, decide_true, if_true, numR]
    · have g3 : ¬ (base : Int) ≤ (Sc.hexB c : Int) := by omega
      have hm : n * base ≤ 4294967295 * 16 := by
        rcases hb with rfl | rfl <;> omega
      have h16 : Sc.hexB c ≤ 99 := by rcases hex_16 c with h | h <;> omega
      have e1 : (n : Int) * (base : Int) = ((n * base : Nat) : Int) := by simp
      have e2 : ((n * base : Nat) : Int) + (Sc.hexB c : Int) = ((n * base + Sc.hexB c : Nat) : Int) := by simp
      have i1 : inR ((n * base : Nat) : Int) = true := by rw [inR_iff]; omega
      have i2 : inR ((n * base + Sc.hexB c : Nat) : Int) = true := by rw [inR_iff]; omega
      simp only [g2, g3, decide_false, Bool.false_eq_true, if_false, e1, e2, i1, i2, if_true]
      by_cases g4 : 4294967295 < n * base + Sc.hexB c
      · have g5 : (4294967295 : Int) < ((n * base + Sc.hexB c : Nat) : Int) := by omega
        simp only [g4, g5, decide_true, if_true, numR]
      · have g5 : ¬ (4294967295 : Int) < ((n * base + Sc.hexB c : Nat) : Int) := by omega
        simp only [g4, g5, decide_false, Bool.false_eq_true, if_false]
        exact digits_v2 s hs hne base hb r (k + 1) _ (drop_s h) hlt (by omega)
set_option linter.unusedSimpArgs false in
theorem digits_02 (base : Int) : Tryd.m26_9 [] base 0 0 = some (numR none) := by
  rw [Tryd.m26_9_eq]
  have e : I ([] : List UInt8).length = 0 := rfl
  simp only [e, Int.lt_irrefl, decide_false, Bool.false_eq_true, if_false, numR]
set_option linter.unusedSimpArgs false in
theorem value_v2 (s : List UInt8) (hs : s.length ≤ 1000000) (hne : s ≠ []) : Tryd.m26 s = some (numR (Sc.valL s)) := by
  obtain ⟨p, c, rfl⟩ : ∃ p c, s = p ++ [c] := ⟨s.dropLast, s.getLast hne, (List.dropLast_concat_getLast hne).symm⟩
  have hlen : I (p ++ [c]).length - 1 = I p.length := by simp only [I_eq, List.length_append, List.length_cons, List.length_nil]; omega
  have i1 : inR (I (p ++ [c]).length - 1) = true := by rw [hlen, inR_iff]; simp only [I_eq, List.length_append] at hs ⊢; omega
  have c0 : (0 : Int) < I (p ++ [c]).length := by simp only [I_eq, List.length_append, List.length_cons, List.length_nil]; omega
  have c1 : (0 : Int) ≤ I (p ++ [c]).length - 1 := by rw [hlen]; exact I_nn _
  have c2 : I (p ++ [c]).length - 1 < I (p ++ [c]).length := by omega
  have c3 : I (p ++ [c]).length - 1 ≤ I (p ++ [c]).length := by omega
  have hp : p.length ≤ 1000000 := by simp only [List.length_append] at hs; omega
  have keyd : ∀ (u : List UInt8) (b : Nat), u.length ≤ 1000000 → (b = 10 ∨ b = 16) → Tryd.m26_9 u (b : Int) 0 0 = some (numR (if u = [] then none else Sc.digits b 0 u)) := by
    intro u b h1 h3
    by_cases h : u = []
    · subst h; rw [if_pos rfl]; exact digits_02 b
    · rw [if_neg h]; exact digits_v2 u h1 h b h3 u 0 0 rfl (Nat.zero_le _) (by omega)
  have key : ∀ (s : List UInt8), s.length ≤ 1000000 → Tryd.m26_3 s = some (numR (if (Sc.baseL s).2 = [] then none else Sc.digits (Sc.baseL s).1 0 (Sc.baseL s).2)) := by
    intro s h1
    have a1 := at_v s 0 [48, 120] h1 (Nat.zero_le _) (len2 _ _)
    have a2 := at_v s 0 [48, 88] h1 (Nat.zero_le _) (len2 _ _)
    have e0 : I 0 = 0 := rfl
    rw [e0, List.drop_zero] at a1 a2
    have g4 : (0 : Int) ≤ 2 := by decide
    have hd : (s.drop 2).length ≤ 1000000 := by rw [List.length_drop]; omega
    rw [Tryd.m26_3_eq, a1, a2]
    unfold Sc.baseL
    simp only [Option.bind, take_all]
    by_cases h2 : ([48, 120] : List UInt8).isPrefixOf s = true
    · simp only [h2, true_or, if_true, pre_len (a := 48) (b := 120) h2, g4, Int.le_refl, and_self, decide_true]
      exact keyd _ 16 hd (.inr rfl)
    · by_cases h3 : ([48, 88] : List UInt8).isPrefixOf s = true
      · simp only [h2, h3, false_or, if_true, Bool.false_eq_true, if_false, pre_len (a := 48) (b := 88) h3, g4, Int.le_refl, and_self, decide_true]
        exact keyd _ 16 hd (.inr rfl)
      · simp only [h2, h3, false_or, Bool.false_eq_true, if_false]
        exact keyd _ 10 h1 (.inl rfl)
  have e1 : Sc.unU (p ++ [c]) = if c = 117 ∨ c = 85 then p else p ++ [c] := by
    unfold Sc.unU
    simp only [List.getLast?_append, List.getLast?_singleton, Option.some_or, Option.some.injEq, List.dropLast_concat]
  rw [Tryd.m26_eq]
  unfold Sc.valL
  rw [e1]
  have d1 : ((c.toNat : Int) = 117) ↔ c = 117 := byte_is c 117 (by decide)
  have d2 : ((c.toNat : Int) = 85) ↔ c = 85 := byte_is c 85 (by decide)
  simp only [i1, c0, c1, c2, c3, Int.le_refl, and_self, decide_true, if_true, last_at, last_take, d1, d2]
  by_cases h1 : c = 117
  · simp only [h1, decide_true, if_true, true_or]
    exact key p hp
  · by_cases h2 : c = 85
    · have h1' : ¬ ((85 : UInt8) = 117) := by decide
      simp only [h1', h2, decide_true, decide_false, Bool.false_eq_true, if_false, if_true, or_true]
      exact key p hp
    · simp only [h1, h2, decide_false, Bool.false_eq_true, if_false, or_self]
      exact key _ hs
set_option linter.unusedSimpArgs false in
theorem esc_cases (b : UInt8) : Sc.escB b = if b = 110 then some 10 else if b = 116 then some 9 else if b = 48 then some 0 else if b = 92 then some 92 else if b = 39 then some 39 else none := rfl
set_option linter.unusedSimpArgs false in
theorem char_v2 (o : List UInt8) (k : Nat) (ho : o.length ≤ 1000000) (hk : k < o.length) : Tryd.m27 o (I k) = some (chrR (Sc.charL (o.drop k))) := by
  have b92 : ∀ c : UInt8, ((c.toNat : Int) = 92) ↔ c = 92 := fun c => byte_is c 92 (by decide)
  have b39 : ∀ c : UInt8, ((c.toNat : Int) = 39) ↔ c = 39 := fun c => byte_is c 39 (by decide)
  have b10 : ∀ c : UInt8, ((c.toNat : Int) = 10) ↔ c = 10 := fun c => byte_is c 10 (by decide)
  have b110 : ∀ c : UInt8, ((c.toNat : Int) = 110) ↔ c = 110 := fun c => byte_is c 110 (by decide)
  have b116 : ∀ c : UInt8, ((c.toNat : Int) = 116) ↔ c = 116 := fun c => byte_is c 116 (by decide)
  have b48 : ∀ c : UInt8, ((c.toNat : Int) = 48) ↔ c = 48 := fun c => byte_is c 48 (by decide)
  have hl : (o.drop k).length = o.length - k := List.length_drop
  generalize hu : o.drop k = u at hl
  rw [Tryd.m27_eq, Tryd.m27_13_eq]
  simp only [I_s, I_add2, I_add3, inI (n := k + 1) (by omega), inI (n := k + 2) (by omega), inI (n := k + 3) (by omega), if_true]
  have g : ∀ j : Nat, (decide (I (k + j) < I o.length)) = decide (j < u.length) := fun j => by
    rw [decide_eq_decide]; simp only [I_eq]; omega
  have g' : ∀ j : Nat, (decide (0 ≤ I (k + j) ∧ I (k + j) < I o.length)) = decide (j < u.length) := fun j => by
    rw [decide_eq_decide]; simp only [I_eq]; omega
  have at_ : ∀ (j : Nat) (c : UInt8) (r : List UInt8), u.drop j = c :: r → strAt o (I (k + j)) = (c.toNat : Int) := fun j c r h => strAt_v (r := r) (by rw [← List.drop_drop, hu, h])
  simp only [g, g']
  match u with
  | [] => simp only [List.length_nil] at hl; omega
  | [a] => simp [Sc.charL, chrR]
  | [a, b] => simp [Sc.charL, chrR]
  | [x, a, b] =>
    have s1 := at_ 1 a [b] rfl
    have s2 := at_ 2 b [] rfl
    have n1 : 1 < [x, a, b].length := by show 1 < 3; decide
    have n2 : 2 < [x, a, b].length := by show 2 < 3; decide
    have n3 : ¬ 3 < [x, a, b].length := by show ¬ 3 < 3; decide
    simp only [s1, s2, n1, n2, n3, decide_true, decide_false, Bool.false_eq_true, if_false, if_true, b92, b39, b10, inB]
    simp only [Sc.charL, List.head?_nil, reduceCtorEq, if_false]
    by_cases h1 : a = 92
    · subst h1; simp [chrR]
    · by_cases h2 : a = 39
      · subst h2; simp [chrR]
      · by_cases h3 : a = 10
        · subst h3; simp [chrR]
        · by_cases h4 : b = 39
          · simp [h1, h2, h3, h4, chrR]
          · simp [h1, h2, h3, h4, chrR]
  | x :: a :: b :: d :: r =>
    have s1 := at_ 1 a (b :: d :: r) rfl
    have s2 := at_ 2 b (d :: r) rfl
    have s3 := at_ 3 d r rfl
    have n1 : 1 < (x :: a :: b :: d :: r).length := by simp only [List.length_cons]; omega
    have n2 : 2 < (x :: a :: b :: d :: r).length := by simp only [List.length_cons]; omega
    have n3 : 3 < (x :: a :: b :: d :: r).length := by simp only [List.length_cons]; omega
    simp only [s1, s2, s3, n1, n2, n3, decide_true, if_true, b92, b39, b10, b110, b116, b48, inB]
    simp only [Sc.charL, List.head?_cons, Option.some.injEq]
    by_cases h1 : a = 92
    · subst h1
      by_cases h2 : d = 39
      · subst h2
        rw [esc_cases]
        by_cases e1 : b = 110
        · subst e1; simp [chrR]
        · by_cases e2 : b = 116
          · subst e2; simp [chrR]
          · by_cases e3 : b = 48
            · subst e3; simp [chrR]
            · by_cases e4 : b = 92
              · subst e4; simp [chrR]
              · by_cases e5 : b = 39
                · subst e5; simp [chrR]
                · simp [e1, e2, e3, e4, e5, chrR]
      · simp [h2, chrR]
    · by_cases h2 : a = 39
      · subst h2; simp [chrR]
      · by_cases h3 : a = 10
        · subst h3; simp [chrR]
        · by_cases h4 : b = 39
          · simp [h1, h2, h3, h4, chrR]
          · simp [h1, h2, h3, h4, chrR]
end Go.Proofs.Law
