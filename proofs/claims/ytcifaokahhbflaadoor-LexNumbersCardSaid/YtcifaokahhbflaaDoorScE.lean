/-
  Numerals: the digits of a number, decimal or hexadecimal, are scanned as that number.
-/
import Derived.Test.YtcifaokahhbflaaDoorScD
namespace Go.Sc
open Go.En

/-- A numeral of a number. -/
inductive Num (b : Nat) : Nat → List UInt8 → Prop where
  | one (u : Nat) (c : UInt8) (h : u < b) (hc : hexB c = u) (ha : aln c = true) : Num b u [c]
  | more (u : Nat) (l : List UInt8) (c : UInt8) (h : ¬ u < b) (hl : Num b (u / b) l) (hc : hexB c = u % b) (ha : aln c = true) : Num b u (l ++ [c])
theorem digits_app (b : Nat) (c : UInt8) : ∀ (l : List UInt8) (n : Nat), digits b n (l ++ [c]) = (digits b n l).bind fun m => if b ≤ hexB c then none else if 4294967295 < m * b + hexB c then none else some (m * b + hexB c)
  | [], n => by
    simp only [List.nil_append, digits, Option.bind]
  | d :: l, n => by
    simp only [List.cons_append, digits]
    by_cases h1 : b ≤ hexB d
    · simp only [h1, if_true, Option.bind]
    · by_cases h2 : 4294967295 < n * b + hexB d
      · simp only [h1, h2, if_true, if_false, Option.bind]
      · simp only [h1, h2, if_false]
        exact digits_app b c l _
theorem num_digits {b : Nat} (hb : 2 ≤ b) {u : Nat} {l : List UInt8} (h : Num b u l) (hb2 : b ≤ 4294967295) : digits b 0 l = if u ≤ 4294967295 then some u else none := by
  induction h with
  | one u c h hc ha =>
    have h1 : ¬ b ≤ hexB c := by omega
    have h2 : ¬ 4294967295 < 0 * b + hexB c := by omega
    simp only [digits, h1, h2, if_false]
    rw [if_pos (by omega), Nat.zero_mul, Nat.zero_add, hc]
  | more u l c h hl hc ha ih =>
    have h0 : 0 < b := by omega
    have hm := Nat.mod_lt u h0
    have h1 : ¬ b ≤ hexB c := by omega
    have hd := Nat.div_add_mod u b
    rw [digits_app, ih]
    have e : u / b * b + hexB c = u := by rw [hc, Nat.mul_comm]; exact hd
    by_cases h2 : u ≤ 4294967295
    · have h3 : u / b ≤ 4294967295 := Nat.le_trans (Nat.div_le_self _ _) h2
      have h4 : ¬ 4294967295 < u := by omega
      simp only [h3, h2, if_true, Option.bind, h1, if_false, e, h4]
    · by_cases h3 : u / b ≤ 4294967295
      · have h4 : 4294967295 < u := by omega
        simp only [h3, if_true, Option.bind, h1, if_false, e, h4, h2]
      · simp only [h3, h2, if_false, Option.bind]
theorem num_aln {b u : Nat} {l : List UInt8} (hb : 0 < b) (h : Num b u l) : ∀ c ∈ l, aln c = true ∧ hexB c < b := by
  induction h with
  | one u c h hc ha => intro d hd; rw [List.mem_singleton] at hd; subst hd; exact ⟨ha, by omega⟩
  | more u l c h hl hc ha ih =>
    intro d hd
    rcases List.mem_append.1 hd with hd | hd
    · exact ih d hd
    · rw [List.mem_singleton] at hd
      subst hd
      refine ⟨ha, ?_⟩
      rw [hc]
      exact Nat.mod_lt _ hb
theorem num_ne {b u : Nat} {l : List UInt8} (h : Num b u l) : l ≠ [] := by
  cases h <;> simp
theorem hex_dig {c : UInt8} (h : hexB c < 10) : digB c = true := by
  unfold hexB at h
  split at h
  · rename_i hd; exact hd
  · split at h
    · omega
    · split at h <;> omega
theorem dig_not {c : UInt8} (h : digB c = true) : c ≠ 117 ∧ c ≠ 85 ∧ c ≠ 120 ∧ c ≠ 88 ∧ letB c = false ∧ ws c = false ∧ c ≠ 47 := by
  refine ⟨?_, ?_, ?_, ?_, ?_, ?_, ?_⟩
  · rintro rfl; revert h; decide
  · rintro rfl; revert h; decide
  · rintro rfl; revert h; decide
  · rintro rfl; revert h; decide
  · simp only [digB, decide_eq_true_eq] at h
    simp only [letB, Bool.or_eq_false_iff, decide_eq_false_iff_not]
    omega
  · simp only [digB, decide_eq_true_eq] at h
    have hc : ∀ d : UInt8, d.toNat < 48 → (c == d) = false := fun d hd => by
      rw [beq_eq_false_iff_ne]
      rintro rfl; omega
    unfold ws
    rw [hc 32 (by decide), hc 9 (by decide), hc 10 (by decide), hc 13 (by decide)]
    rfl
  · rintro rfl; revert h; decide
/-- A decimal numeral. -/
theorem val_dec {u : Nat} {l : List UInt8} (h : Num 10 u l) : valL l = if u ≤ 4294967295 then some u else none := by
  have hd : ∀ c ∈ l, digB c = true := fun c hc => hex_dig (num_aln (by decide) h c hc).2
  have hn := num_ne h
  have e1 : unU l = l := by
    unfold unU
    rw [if_neg]
    rintro (h1 | h1)
    · exact (dig_not (hd _ (List.mem_of_getLast? h1))).1 rfl
    · exact (dig_not (hd _ (List.mem_of_getLast? h1))).2.1 rfl
  have e2 : baseL l = (10, l) := by
    unfold baseL
    rw [if_neg]
    rintro (h1 | h1)
    · obtain ⟨t, ht⟩ := List.isPrefixOf_iff_prefix.1 h1
      exact (dig_not (hd 120 (by rw [← ht]; simp))).2.2.1 rfl
    · obtain ⟨t, ht⟩ := List.isPrefixOf_iff_prefix.1 h1
      exact (dig_not (hd 88 (by rw [← ht]; simp))).2.2.2.1 rfl
  unfold valL
  rw [e1, e2]
  simp only [hn, if_false]
  exact num_digits (by decide) h (by decide)
theorem val_decu {u : Nat} {l : List UInt8} (h : Num 10 u l) : valL (l ++ [117]) = if u ≤ 4294967295 then some u else none := by
  have hd : ∀ c ∈ l, digB c = true := fun c hc => hex_dig (num_aln (by decide) h c hc).2
  have e1 : unU (l ++ [117]) = l := by
    unfold unU
    rw [if_pos (.inl (by simp)), List.dropLast_concat]
  have e2 : unU l = l := by
    unfold unU
    rw [if_neg]
    rintro (h1 | h1)
    · exact (dig_not (hd _ (List.mem_of_getLast? h1))).1 rfl
    · exact (dig_not (hd _ (List.mem_of_getLast? h1))).2.1 rfl
  have := val_dec h
  unfold valL at this ⊢
  rw [e1]
  rw [e2] at this
  exact this
theorem hex_not {c : UInt8} (ha : aln c = true) (h : hexB c < 16) : c ≠ 117 ∧ c ≠ 85 := by
  refine ⟨?_, ?_⟩
  · rintro rfl; revert h; decide
  · rintro rfl; revert h; decide
/-- A hexadecimal numeral. -/
theorem val_hex {u : Nat} {l : List UInt8} (h : Num 16 u l) : valL (48 :: 120 :: l) = if u ≤ 4294967295 then some u else none := by
  have hn := num_ne h
  have e1 : unU (48 :: 120 :: l) = 48 :: 120 :: l := by
    unfold unU
    rw [if_neg]
    have hm : (48 :: 120 :: l).getLast? = l.getLast? := by
      cases l with
      | nil => exact absurd rfl hn
      | cons c r => rfl
    rw [hm]
    rintro (h1 | h1)
    · have := num_aln (by decide) h _ (List.mem_of_getLast? h1); exact (hex_not this.1 this.2).1 rfl
    · have := num_aln (by decide) h _ (List.mem_of_getLast? h1); exact (hex_not this.1 this.2).2 rfl
  have e2 : baseL (48 :: 120 :: l) = (16, l) := by
    unfold baseL
    rw [if_pos (.inl (by simp [List.isPrefixOf]))]
    rfl
  unfold valL
  rw [e1, e2]
  simp only [hn, if_false]
  exact num_digits (by decide) h (by decide)
theorem val_hexu {u : Nat} {l : List UInt8} (h : Num 16 u l) : valL (48 :: 88 :: l ++ [85]) = if u ≤ 4294967295 then some u else none := by
  have hn := num_ne h
  have e1 : unU (48 :: 88 :: l ++ [85]) = 48 :: 88 :: l := by
    unfold unU
    rw [if_pos (.inr (by rw [List.getLast?_append]; rfl)), List.dropLast_concat]
  have e2 : baseL (48 :: 88 :: l) = (16, l) := by
    unfold baseL
    rw [if_pos (.inr (by simp [List.isPrefixOf]))]
    rfl
  unfold valL
  rw [e1, e2]
  simp only [hn, if_false]
  exact num_digits (by decide) h (by decide)
/-- A numeral alone. -/
theorem scan_num {c : UInt8} {r : List UInt8} (hc : digB c = true) (ha : ∀ d ∈ r, aln d = true) {v : Nat} (hv : valL (c :: r) = some v) : scanL 0 0 (c :: r) = .ok [⟨3, c :: r, (v : Int), 0⟩, fin (c :: r).length] := by
  have hn := dig_not hc
  have htw : (c :: r).takeWhile aln = c :: r := by
    have := List.takeWhile_append_of_pos (p := aln) (l₁ := c :: r) (l₂ := []) (fun d hd => by
      rcases List.mem_cons.1 hd with rfl | hd
      · exact aln_of_dig hc
      · exact ha d hd)
    simpa using this
  have ht : tokL (c :: r) = .tok 3 (c :: r) v := by
    simp only [tokL, hn.2.2.2.2.1, hc, if_true, Bool.false_eq_true, if_false]
    rw [htw, hv]
  have hs : skipL (c :: r) = (c :: r, true) := skip_not hn.2.2.2.2.2.1 (fun h => hn.2.2.2.2.2.2 h.1) (fun h => hn.2.2.2.2.2.2 h.1)
  rw [scan_tok 0 hs ht (by decide)]
  have hd : r.drop ((c :: r).length - 1) = [] := by simp
  rw [hd, scan_end _ _ skip_nil]
  simp [Scn.cons]
theorem scan_bad_num {c : UInt8} {r : List UInt8} (hc : digB c = true) (ha : ∀ d ∈ r, aln d = true) (hv : valL (c :: r) = none) : scanL 0 0 (c :: r) = .err 0 3 := by
  have hn := dig_not hc
  have htw : (c :: r).takeWhile aln = c :: r := by
    have := List.takeWhile_append_of_pos (p := aln) (l₁ := c :: r) (l₂ := []) (fun d hd => by
      rcases List.mem_cons.1 hd with rfl | hd
      · exact aln_of_dig hc
      · exact ha d hd)
    simpa using this
  have ht : tokL (c :: r) = .err 3 := by
    simp only [tokL, hn.2.2.2.2.1, hc, if_true, Bool.false_eq_true, if_false]
    rw [htw, hv]
  have hs : skipL (c :: r) = (c :: r, true) := skip_not hn.2.2.2.2.2.1 (fun h => hn.2.2.2.2.2.2 h.1) (fun h => hn.2.2.2.2.2.2 h.1)
  rw [scan_err 0 0 hs ht]
  simp
end Go.Sc
