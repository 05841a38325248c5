/-
  Layer 18, plain: roots, keys, and nodes as the program has them.
-/
import Derived.Test.YtfdlkehaccgeeaaDoorLfA
import Derived.Test.YtfdlkehaccgeeaaDoorCg
namespace Go.Proofs.Law
open Go Go.En Go.Proofs

theorem I_eq (n : Nat) : I n = (n : Int) := rfl
theorem I_lt {a b : Nat} (h : a < b) : I a < I b := by simp only [I_eq]; omega
theorem I_nlt (a : Nat) : ¬ I a < I a := by simp only [I_eq]; omega
theorem I_nn (a : Nat) : (0 : Int) ≤ I a := by simp only [I_eq]; omega
theorem I_nat (a : Nat) : (I a).toNat = a := Int.toNat_natCast a
theorem I_s (a : Nat) : I a + 1 = I (a + 1) := by simp only [I_eq]; omega
theorem I_in {a b : Nat} (h : a < b) (hb : b < 1000000) : inR (I (a + 1)) = true := by rw [inR_iff]; simp only [I_eq]; omega
theorem drop_get {α : Type} {s : List α} {k : Nat} (d : α) (h : k < s.length) : s.drop k = s.getD k d :: s.drop (k + 1) := by
  rw [List.drop_eq_getElem_cons h]; simp [List.getD, h]
theorem room_s (bs n : Nat) (h : n * (bs + 1) ≤ 140737488355328) : room bs n = true := by simp only [room, decide_eq_true_eq]; exact h

/-- THE ROOT. -/
theorem m18_v (up : List Int) (h : Fo up) : ∀ (k : Nat) (a : Int), a.toNat ≤ k → Tryd.m18_1 up a = some ((root up a, ()), ()) := by
  intro k
  induction k with
  | zero =>
    intro a hk
    rw [Tryd.m18_1_eq]
    by_cases c : 0 ≤ a ∧ a < I up.length
    · have ha : a = 0 := by omega
      have h2 := h 0 (by simp only [I_eq] at c; omega)
      have e : up.getD a.toNat 0 = a := by rw [ha]; simp only [Int.toNat_zero]; omega
      simp only [c, e, and_self, decide_true, if_true, Bool.not_true, Bool.false_eq_true, if_false, root_self e]
    · rw [root_out (by simpa only [I_eq] using c)]
      by_cases c1 : 0 ≤ a
      · have c2 : ¬ a < I up.length := fun h => c ⟨c1, h⟩
        simp only [c1, c2, decide_true, decide_false, if_true, Bool.false_eq_true, if_false]
      · simp only [c1, decide_false, Bool.false_eq_true, if_false]
  | succ k ih =>
    intro a hk
    rw [Tryd.m18_1_eq]
    by_cases c : 0 ≤ a ∧ a < I up.length
    · have c' : 0 ≤ a ∧ a < up.length := by simpa only [I_eq] using c
      by_cases e : up.getD a.toNat 0 = a
      · simp only [c, e, and_self, decide_true, if_true, Bool.not_true, Bool.false_eq_true, if_false, root_self e]
      · have h2 := h a.toNat (by omega)
        simp only [c, e, and_self, decide_true, decide_false, if_true, Bool.not_false]
        rw [ih _ (by omega), ← root_up h c'.1 c'.2]
    · rw [root_out (by simpa only [I_eq] using c)]
      by_cases c1 : 0 ≤ a
      · have c2 : ¬ a < I up.length := fun h => c ⟨c1, h⟩
        simp only [c1, c2, decide_true, decide_false, if_true, Bool.false_eq_true, if_false]
      · simp only [c1, decide_false, Bool.false_eq_true, if_false]
theorem root_v (up : List Int) (h : Fo up) (a : Int) : Tryd.m18 up a = some ((root up a, ()), ()) := by
  rw [Tryd.m18_eq]; exact m18_v up h a.toNat a (Nat.le_refl _)
/-- A node that may be gone through. -/
def SmallN (x : En.Dop.Nod) : Prop := x.head.length ≤ 20 ∧ x.args.length ≤ 6 ∧ ∀ a ∈ x.args, -9223372036854775808 ≤ a ∧ a ≤ 9223372036854775807
/-- A node's key. -/
def keyL (x : En.Dop.Nod) (up : List Int) : List UInt8 := quoteL Lib.goPrintTabs x.head ++ numsL 32 (x.args.map (root up))
theorem nDig (n : Nat) : ∀ k, n < 10 ^ (k + 1) → (Lib.decDigits n).length ≤ k + 1 := by
  intro k hk
  rw [Lib.decDigits_length]
  induction k generalizing n with
  | zero => rw [Lib.nDigits_small (by omega)]; exact Nat.le_refl _
  | succ k ih =>
    by_cases h : n < 10
    · rw [Lib.nDigits_small h]; omega
    · rw [Lib.nDigits_big h]
      have := ih (n / 10) (by rw [Nat.pow_succ] at hk; omega)
      omega
theorem itoa_len (n : Int) (h : -9223372036854775808 ≤ n ∧ n ≤ 9223372036854775807) : (Lib.itoa n).length ≤ 21 := by
  unfold Lib.itoa
  split
  · have := nDig n.natAbs 19 (by omega)
    simp only [List.length_cons]; omega
  · have := nDig n.toNat 19 (by omega)
    omega
theorem root_int (up : List Int) (h : Fo up) (hl : up.length < 1000000) (a : Int) (ha : -9223372036854775808 ≤ a ∧ a ≤ 9223372036854775807) : -9223372036854775808 ≤ root up a ∧ root up a ≤ 9223372036854775807 := by
  by_cases c : 0 ≤ a ∧ a < up.length
  · have := root_rng h c.1 c.2; omega
  · rw [root_out c]; exact ha
theorem key_loop (up : List Int) (h : Fo up) (hl : up.length < 1000000) (s : List Int) (hs : s.length ≤ 6) (ha : ∀ a ∈ s, -9223372036854775808 ≤ a ∧ a ≤ 9223372036854775807) : ∀ (n k : Nat) (out : List UInt8), k + n = s.length → out.length ≤ 1000 + 30 * k →
    Tryd.m17_3 up out s (I s.length) (I k) = some ((out ++ numsL 32 ((s.drop k).map (root up)), ()), ())
  | 0, k, out, e, _ => by
    have e : k = s.length := by omega
    subst e
    rw [Tryd.m17_3_eq, List.drop_eq_nil_of_le (Nat.le_refl _)]
    simp only [I_nlt, decide_false, Bool.false_eq_true, if_false, List.map_nil, numsL, List.flatMap_nil, List.append_nil]
  | n + 1, k, out, e, ho => by
    have hk : k < s.length := by omega
    have hm : s.getD k 0 ∈ s := by simp [List.getD, hk]
    have hr := root_int up h hl _ (ha _ hm)
    have hil := itoa_len _ hr
    have ih := key_loop up h hl s hs ha n (k + 1) (out ++ ((32 : UInt8) :: ([] : List UInt8) ++ Lib.itoa (root up (s.getD k 0)))) (by omega) (by simp only [List.length_append, List.length_cons, List.length_nil]; omega)
    have k1 : inI (root up (s.getD k 0)) = true := decide_eq_true hr
    have k2 : ((32 : UInt8) :: ([] : List UInt8)).length + (Lib.itoa (root up (s.getD k 0))).length ≤ 9223372036854775807 := by simp only [List.length_cons, List.length_nil]; omega
    have k3 : out.length + ((32 : UInt8) :: ([] : List UInt8) ++ Lib.itoa (root up (s.getD k 0))).length ≤ 9223372036854775807 := by simp only [List.length_append, List.length_cons, List.length_nil]; omega
    rw [Tryd.m17_3_eq]
    simp only [I_lt hk, I_nn, I_nat, I_s, I_in hk (show s.length < 1000000 by omega), and_self, decide_true, if_true, root_v up h, Option.bind, k1, k2, k3]
    rw [ih, drop_get (0 : Int) hk]
    simp only [List.map_cons, numsL, List.flatMap_cons, List.cons_append, List.nil_append, List.append_assoc]
theorem key_v (x : En.Dop.Nod) (up : List Int) (hx : SmallN x) (h : Fo up) (hl : up.length < 1000000) : Tryd.m17 x up = some ((keyL x up, ()), ()) := by
  obtain ⟨h1, h2, h3⟩ := hx
  have hq := quoteL_len Lib.goPrintTabs x.head
  have hok : okQ x.head = true := decide_eq_true (by omega)
  have := key_loop up h hl x.args h2 h3 x.args.length 0 (quoteL Lib.goPrintTabs x.head) (by omega) (by omega)
  have e0 : I 0 = 0 := rfl
  rw [e0] at this
  rw [Tryd.m17_eq]
  simp only [hok, if_true, this, List.drop_zero, keyL]
/-- A KEY TELLS ITS NODE'S HEAD AND ROOTS. -/
theorem key_inj {h1 h2 : List UInt8} {r1 r2 : List Int} (h : quoteL Lib.goPrintTabs h1 ++ numsL 32 r1 = quoteL Lib.goPrintTabs h2 ++ numsL 32 r2) : h1 = h2 ∧ r1 = r2 := by
  obtain ⟨k1, k2⟩ := quoteL_inj _ h
  exact ⟨k1, numsL_inj k2⟩
/-- Nodes as the program has them. -/
def nod (x : En.Dop.Rno) : En.Dop.Nod := ⟨x.head, x.args⟩
theorem given_loop (l : List En.Dop.Rno) (hl : l.length ≤ 100) (ha : ∀ x ∈ l, x.args.length ≤ 6) : ∀ (n k : Nat) (out : List En.Dop.Nod), k + n = l.length → out.length ≤ k →
    Tryd.m12_3 out l (I l.length) (I k) = some ((out ++ (l.drop k).map nod, ()), ())
  | 0, k, out, e, _ => by
    have e : k = l.length := by omega
    subst e
    rw [Tryd.m12_3_eq, List.drop_eq_nil_of_le (Nat.le_refl _)]
    simp only [I_nlt, decide_false, Bool.false_eq_true, if_false, List.map_nil, List.append_nil]
  | n + 1, k, out, e, ho => by
    have hk : k < l.length := by omega
    have hm : l.getD k Dop.d3 ∈ l := by simp [List.getD, hk]
    have h6 := ha _ hm
    have ih := given_loop l hl ha n (k + 1) (out ++ [nod (l.getD k Dop.d3)]) (by omega) (by simp only [List.length_append, List.length_cons, List.length_nil]; omega)
    have k1 : room 8 (l.getD k Dop.d3).args.length = true := room_s _ _ (by omega)
    have k2 : ∀ y : En.Dop.Nod, room 40 (out.length + [y].length) = true := fun y => room_s _ _ (by simp only [List.length_cons, List.length_nil]; omega)
    rw [Tryd.m12_3_eq]
    simp only [I_lt hk, I_nn, I_nat, I_s, I_in hk (show l.length < 1000000 by omega), and_self, decide_true, if_true, andC, k1, k2]
    rw [drop_get Dop.d3 hk, List.map_cons]
    by_cases c : (l.getD k Dop.d3).args.length = 0
    · have e1 : nod (l.getD k Dop.d3) = ⟨(l.getD k Dop.d3).head, []⟩ := by unfold nod; rw [List.length_eq_zero_iff.1 c]
      simp only [c, decide_true, if_true]
      rw [← e1, ih, List.append_assoc]; rfl
    · simp only [c, decide_false, Bool.false_eq_true, if_false]
      refine ih.trans ?_
      rw [List.append_assoc]; rfl
theorem given_v (l : List En.Dop.Rno) (hl : l.length ≤ 100) (ha : ∀ x ∈ l, x.args.length ≤ 6) : Tryd.m12 l = some ((l.map nod, ()), ()) := by
  rw [Tryd.m12_eq]
  have := given_loop l hl ha l.length 0 [] (by omega) (by simp)
  exact this
theorem in_v (n : Int) (b : List En.Dop.Nod) : Tryd.m15 n b = some ((decide (0 ≤ n ∧ n < I b.length), ()), ((b, ()), ())) := by
  rw [Tryd.m15_eq]
  by_cases h : (0 : Int) ≤ n
  · simp only [h, decide_true, if_true, true_and]
  · simp only [h, decide_false, Bool.false_eq_true, if_false, false_and]
end Go.Proofs.Law
