/-
  LexNumbers is true.
-/
import Derived.Test.YtcifaokahhbflaaDoorNumA
import Derived.Test.YtcifaokahhbflaaDoorLxI
set_option maxRecDepth 20000
set_option linter.unusedSimpArgs false
set_option linter.unusedVariables false
namespace Go.Proofs.Law
open Go Go.Lib Go.En Go.Proofs Go.Sc

theorem num_len {b : Nat} (hb : 2 ≤ b) {u : Nat} {l : List UInt8} (h : Num b u l) : ∀ k, u < 2 ^ k → l.length ≤ k + 1 := by
  induction h with
  | one u c h hc ha => intro k _; simp
  | more u l c h hl hc ha ih =>
    intro k hk
    cases k with
    | zero => simp at hk; omega
    | succ k =>
      have h1 : u / b < 2 ^ k := by
        refine Nat.div_lt_of_lt_mul ?_
        have h2 : 2 * 2 ^ k ≤ b * 2 ^ k := Nat.mul_le_mul_right _ hb
        rw [Nat.pow_succ] at hk
        omega
      have := ih k h1
      rw [List.length_append, List.length_singleton]
      omega
/-- A text that is scanned as a number alone. -/
def GoodN (n : Nat) (t : List UInt8) : Prop := Tryd.m11 t = some (([⟨3, t, I n, 0⟩, fin t.length], ((0 : Int), ((0 : Int), ()))), ())
theorem goodN {c : UInt8} {r : List UInt8} {n : Nat} (hc : digB c = true) (ha : ∀ d ∈ r, aln d = true) (hv : valL (c :: r) = some n) (hl : (c :: r).length ≤ 100) : GoodN n (c :: r) := by
  unfold GoodN
  rw [scan_v, scanA, if_neg (by omega), scan_num hc ha hv]
  rfl
theorem num_cons {b u : Nat} {l : List UInt8} (hb : 0 < b) (h : Num b u l) : ∃ c r, l = c :: r ∧ (∀ d ∈ r, aln d = true) ∧ hexB c < b ∧ aln c = true := by
  cases hl : l with
  | nil => exact absurd hl (num_ne h)
  | cons c r =>
    have ha := num_aln hb h
    exact ⟨c, r, rfl, fun d hd => (ha d (by rw [hl]; exact List.mem_cons_of_mem _ hd)).1, (ha c (by rw [hl]; exact List.mem_cons_self)).2, (ha c (by rw [hl]; exact List.mem_cons_self)).1⟩
theorem good_dec {n : Nat} {l : List UInt8} (h : Num 10 n l) (hn : n ≤ 4294967295) : GoodN n l := by
  obtain ⟨c, r, rfl, h1, h2, h3⟩ := num_cons (by decide) h
  have hl := num_len (by decide) h 32 (by omega)
  exact goodN (hex_dig h2) h1 (by rw [val_dec h, if_pos hn]) (by omega)
theorem good_decu {n : Nat} {l : List UInt8} (h : Num 10 n l) (hn : n ≤ 4294967295) : GoodN n (l ++ [117]) := by
  have hv := val_decu h
  obtain ⟨c, r, rfl, h1, h2, h3⟩ := num_cons (by decide) h
  have hl := num_len (by decide) h 32 (by omega)
  simp only [List.length_cons] at hl
  refine goodN (r := r ++ [117]) (hex_dig h2) (fun d hd => ?_) (by rw [← List.cons_append, hv, if_pos hn]) (by simp only [List.length_cons, List.length_append, List.length_nil]; omega)
  rcases List.mem_append.1 hd with hd | hd
  · exact h1 d hd
  · rw [List.mem_singleton] at hd; subst hd; decide
theorem good_hex {n : Nat} {l : List UInt8} (h : Num 16 n l) (hn : n ≤ 4294967295) : GoodN n (48 :: 120 :: l) := by
  have hl := num_len (by decide) h 32 (by omega)
  refine goodN (c := 48) (r := 120 :: l) (by decide) (fun d hd => ?_) (by rw [val_hex h, if_pos hn]) (by simp only [List.length_cons]; omega)
  rcases List.mem_cons.1 hd with rfl | hd
  · decide
  · exact (num_aln (by decide) h d hd).1
theorem good_hexu {n : Nat} {l : List UInt8} (h : Num 16 n l) (hn : n ≤ 4294967295) : GoodN n (48 :: 88 :: l ++ [85]) := by
  have hl := num_len (by decide) h 32 (by omega)
  have hv : valL (48 :: 88 :: (l ++ [85])) = some n := (val_hexu h).trans (if_pos hn)
  refine goodN (c := 48) (r := 88 :: (l ++ [85])) (by decide) (fun d hd => ?_) hv (by simp only [List.length_cons, List.length_append, List.length_nil]; omega)
  rcases List.mem_cons.1 hd with rfl | hd
  · decide
  · rcases List.mem_append.1 hd with hd | hd
    · exact (num_aln (by decide) h d hd).1
    · rw [List.mem_singleton] at hd; subst hd; decide
theorem itoa_nat (n : Nat) : itoa (I n) = decDigits n := by
  unfold itoa
  rw [if_neg (by simp only [I_eq]; omega), I_nat]
theorem big_bad {n : Nat} (hn : n ≤ 4294967295) : Tryd.m11 (itoa (I n + 4294967296)) = some (([], ((0 : Int), ((3 : Int), ()))), ()) := by
  have e : I n + 4294967296 = I (n + 4294967296) := by simp only [I_eq]; omega
  have h := num_dec (n + 4294967296)
  have hv := val_dec h
  have hl := num_len (by decide) h 40 (by omega)
  rw [e, itoa_nat, scan_v, scanA, if_neg (by omega)]
  rw [if_neg (by omega)] at hv
  obtain ⟨c, r, h0, h1, h2, h3⟩ := num_cons (by decide) h
  rw [h0] at hv ⊢
  rw [scan_bad_num (hex_dig h2) h1 hv]
  rfl
theorem numbers_loop (n : Nat) (hn : n ≤ 4294967295) (l : List (List UInt8)) (hg : ∀ t ∈ l, GoodN n t) (hl : l.length ≤ 4) : ∀ (j k : Nat), k + j = l.length → Tryd.m9_2 (I n) l (I l.length) (I k) = some ((true, ()), ())
  | 0, k, h => by
    have e : k = l.length := by omega
    have c1 : inR (I n) = true := by rw [inR_iff]; simp only [I_eq]; omega
    have c2 : inR (I n + 4294967296) = true := by rw [inR_iff]; simp only [I_eq]; omega
    have c3 : Proofs.inI (I n + 4294967296) = true := by refine decide_eq_true ?_; simp only [I_eq]; omega
    rw [Tryd.m9_2_eq]
    subst e
    rw [if_neg (by simp [I_eq]), if_pos c1, if_pos c2, if_pos c3, big_bad hn, awake_v]
    rfl
  | j + 1, k, h => by
    have hk : k < l.length := by omega
    have hm : l.getD k [] ∈ l := by simp [List.getD, hk]
    have h1 := hg _ hm
    have c1 : inR (I n) = true := by rw [inR_iff]; simp only [I_eq]; omega
    have k1 := numbers_loop n hn l hg hl j (k + 1) (by omega)
    unfold GoodN at h1
    have c2 : inR (I k + 1) = true := by rw [inR_iff]; simp only [I_eq]; omega
    have c3 : I k + 1 = I (k + 1) := by simp only [I_eq]; omega
    have c4 : I k < I l.length := by simp only [I_eq]; omega
    have c5 : (0 : Int) ≤ I k := by simp only [I_eq]; omega
    rw [Tryd.m9_2_eq, if_pos (decide_eq_true c4), if_pos (decide_eq_true ⟨c5, c4⟩), I_nat, if_pos (decide_eq_true hk), h1]
    simp only [Option.bind, decide_true, Bool.not_true, Bool.false_eq_true, if_false, c1, c2, if_true]
    rw [if_neg (by exact Bool.false_ne_true), if_pos (by rfl), if_pos (by rfl), if_neg (by exact Bool.false_ne_true), if_pos (by rfl), if_pos (by rfl)]
    rw [if_neg (by simp), if_pos (by rfl), if_pos (by rfl), if_neg (by simp), c3]
    exact k1
theorem numbers_law (n : Nat) (hn : n ≤ 4294967295) : Tryd.m9 (I n) = some ((true, ()), ()) := by
  obtain ⟨l, h1, h2⟩ := format16 n hn
  have hd := num_dec n
  have hlen := num_len (by decide) h1 32 (by omega)
  have hdl := num_len (by decide) hd 32 (by omega)
  have c1 : inR (I n) = true := by rw [inR_iff]; simp only [I_eq]; omega
  have c2 : Proofs.inI (I n) = true := by refine decide_eq_true ?_; simp only [I_eq]; omega
  rw [Tryd.m9_eq, if_pos c1, if_pos c2, if_pos c1, h2]
  simp only [Option.bind]
  rw [if_pos (decide_eq_true (by simp only [List.length_cons, List.length_nil]; omega)), if_pos c1, if_pos (decide_eq_true (by simp only [List.length_cons, List.length_nil]; omega)), if_pos (decide_eq_true (by simp only [List.length_append, List.length_cons, List.length_nil]; omega)), if_pos c1, if_pos c2, itoa_nat,
    if_pos (decide_eq_true (by simp only [List.length_cons, List.length_nil]; omega))]
  refine numbers_loop n hn _ (fun t ht => ?_) (by simp) 4 0 (by simp)
  simp only [List.mem_cons, List.not_mem_nil, or_false] at ht
  rcases ht with rfl | rfl | rfl | rfl
  · exact good_dec hd hn
  · exact good_hex h1 hn
  · exact good_hexu h1 hn
  · exact good_decu hd hn
end Go.Proofs.Law
