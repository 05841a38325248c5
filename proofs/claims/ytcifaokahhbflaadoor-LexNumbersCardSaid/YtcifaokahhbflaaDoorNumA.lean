/-
  A number's text at base 16: FormatInt, plain; and at base 10.
-/
import Derived.Test.YtcifaokahhbflaaDoorLfD
import Derived.Test.YtcifaokahhbflaaDoorScE
import Derived.Test.YtcifaokahhbflaaDoorLxF
import Derived.Laws.Bits64b
set_option maxRecDepth 20000
set_option linter.unusedSimpArgs false
set_option linter.unusedVariables false
namespace Go.Proofs.Law
open Go Go.Lib Go.En Go.Proofs Go.Sc

theorem toA_len (a : En.Dop.Ar65) : (toA a).length = 65 := rfl
theorem toA_get (a : En.Dop.Ar65) (i : Nat) (v : Int) : ∀ j, j < 65 → (toA (wrA a i v))[j]? = if i = j then some v else (toA a)[j]?
  | 0, _ => by
    show some (if i = 0 then v else a.x0) = _
    split <;> rfl
  | 1, _ => by
    show some (if i = 1 then v else a.x1) = _
    split <;> rfl
  | 2, _ => by
    show some (if i = 2 then v else a.x2) = _
    split <;> rfl
  | 3, _ => by
    show some (if i = 3 then v else a.x3) = _
    split <;> rfl
  | 4, _ => by
    show some (if i = 4 then v else a.x4) = _
    split <;> rfl
  | 5, _ => by
    show some (if i = 5 then v else a.x5) = _
    split <;> rfl
  | 6, _ => by
    show some (if i = 6 then v else a.x6) = _
    split <;> rfl
  | 7, _ => by
    show some (if i = 7 then v else a.x7) = _
    split <;> rfl
  | 8, _ => by
    show some (if i = 8 then v else a.x8) = _
    split <;> rfl
  | 9, _ => by
    show some (if i = 9 then v else a.x9) = _
    split <;> rfl
  | 10, _ => by
    show some (if i = 10 then v else a.x10) = _
    split <;> rfl
  | 11, _ => by
    show some (if i = 11 then v else a.x11) = _
    split <;> rfl
  | 12, _ => by
    show some (if i = 12 then v else a.x12) = _
    split <;> rfl
  | 13, _ => by
    show some (if i = 13 then v else a.x13) = _
    split <;> rfl
  | 14, _ => by
    show some (if i = 14 then v else a.x14) = _
    split <;> rfl
  | 15, _ => by
    show some (if i = 15 then v else a.x15) = _
    split <;> rfl
  | 16, _ => by
    show some (if i = 16 then v else a.x16) = _
    split <;> rfl
  | 17, _ => by
    show some (if i = 17 then v else a.x17) = _
    split <;> rfl
  | 18, _ => by
    show some (if i = 18 then v else a.x18) = _
    split <;> rfl
  | 19, _ => by
    show some (if i = 19 then v else a.x19) = _
    split <;> rfl
  | 20, _ => by
    show some (if i = 20 then v else a.x20) = _
    split <;> rfl
  | 21, _ => by
    show some (if i = 21 then v else a.x21) = _
    split <;> rfl
  | 22, _ => by
    show some (if i = 22 then v else a.x22) = _
    split <;> rfl
  | 23, _ => by
    show some (if i = 23 then v else a.x23) = _
    split <;> rfl
  | 24, _ => by
    show some (if i = 24 then v else a.x24) = _
    split <;> rfl
  | 25, _ => by
    show some (if i = 25 then v else a.x25) = _
    split <;> rfl
  | 26, _ => by
    show some (if i = 26 then v else a.x26) = _
    split <;> rfl
  | 27, _ => by
    show some (if i = 27 then v else a.x27) = _
    split <;> rfl
  | 28, _ => by
    show some (if i = 28 then v else a.x28) = _
    split <;> rfl
  | 29, _ => by
    show some (if i = 29 then v else a.x29) = _
    split <;> rfl
  | 30, _ => by
    show some (if i = 30 then v else a.x30) = _
    split <;> rfl
  | 31, _ => by
    show some (if i = 31 then v else a.x31) = _
    split <;> rfl
  | 32, _ => by
    show some (if i = 32 then v else a.x32) = _
    split <;> rfl
  | 33, _ => by
    show some (if i = 33 then v else a.x33) = _
    split <;> rfl
  | 34, _ => by
    show some (if i = 34 then v else a.x34) = _
    split <;> rfl
  | 35, _ => by
    show some (if i = 35 then v else a.x35) = _
    split <;> rfl
  | 36, _ => by
    show some (if i = 36 then v else a.x36) = _
    split <;> rfl
  | 37, _ => by
    show some (if i = 37 then v else a.x37) = _
    split <;> rfl
  | 38, _ => by
    show some (if i = 38 then v else a.x38) = _
    split <;> rfl
  | 39, _ => by
    show some (if i = 39 then v else a.x39) = _
    split <;> rfl
  | 40, _ => by
    show some (if i = 40 then v else a.x40) = _
    split <;> rfl
  | 41, _ => by
    show some (if i = 41 then v else a.x41) = _
    split <;> rfl
  | 42, _ => by
    show some (if i = 42 then v else a.x42) = _
    split <;> rfl
  | 43, _ => by
    show some (if i = 43 then v else a.x43) = _
    split <;> rfl
  | 44, _ => by
    show some (if i = 44 then v else a.x44) = _
    split <;> rfl
  | 45, _ => by
    show some (if i = 45 then v else a.x45) = _
    split <;> rfl
  | 46, _ => by
    show some (if i = 46 then v else a.x46) = _
    split <;> rfl
  | 47, _ => by
    show some (if i = 47 then v else a.x47) = _
    split <;> rfl
  | 48, _ => by
    show some (if i = 48 then v else a.x48) = _
    split <;> rfl
  | 49, _ => by
    show some (if i = 49 then v else a.x49) = _
    split <;> rfl
  | 50, _ => by
    show some (if i = 50 then v else a.x50) = _
    split <;> rfl
  | 51, _ => by
    show some (if i = 51 then v else a.x51) = _
    split <;> rfl
  | 52, _ => by
    show some (if i = 52 then v else a.x52) = _
    split <;> rfl
  | 53, _ => by
    show some (if i = 53 then v else a.x53) = _
    split <;> rfl
  | 54, _ => by
    show some (if i = 54 then v else a.x54) = _
    split <;> rfl
  | 55, _ => by
    show some (if i = 55 then v else a.x55) = _
    split <;> rfl
  | 56, _ => by
    show some (if i = 56 then v else a.x56) = _
    split <;> rfl
  | 57, _ => by
    show some (if i = 57 then v else a.x57) = _
    split <;> rfl
  | 58, _ => by
    show some (if i = 58 then v else a.x58) = _
    split <;> rfl
  | 59, _ => by
    show some (if i = 59 then v else a.x59) = _
    split <;> rfl
  | 60, _ => by
    show some (if i = 60 then v else a.x60) = _
    split <;> rfl
  | 61, _ => by
    show some (if i = 61 then v else a.x61) = _
    split <;> rfl
  | 62, _ => by
    show some (if i = 62 then v else a.x62) = _
    split <;> rfl
  | 63, _ => by
    show some (if i = 63 then v else a.x63) = _
    split <;> rfl
  | 64, _ => by
    show some (if i = 64 then v else a.x64) = _
    split <;> rfl
  | j + 65, hj => absurd hj (by omega)
theorem toA_drop (a : En.Dop.Ar65) (i : Nat) (hi : i < 65) (v : Int) : (toA (wrA a i v)).drop i = v :: (toA a).drop (i + 1) := by
  apply List.ext_getElem?
  intro j
  rw [List.getElem?_drop]
  by_cases hj : i + j < 65
  · rw [toA_get a i v _ hj]
    cases j with
    | zero => simp
    | succ j => rw [if_neg (by omega), List.getElem?_cons_succ, List.getElem?_drop]; congr 1; omega
  · cases j with
    | zero => omega
    | succ j => rw [List.getElem?_eq_none (by rw [toA_len]; omega), List.getElem?_cons_succ, List.getElem?_drop, List.getElem?_eq_none (by rw [toA_len]; omega)]
theorem num_dec (u : Nat) : Num 10 u (decDigits u) := by
  induction u using Nat.strongRecOn with
  | _ u ih =>
    rw [decDigits]
    have hd : ∀ m, m < 10 → hexB (UInt8.ofNat (48 + m)) = m ∧ aln (UInt8.ofNat (48 + m)) = true := by decide
    by_cases h : u < 10
    · rw [dif_pos h]
      exact .one u _ h (hd u h).1 (hd u h).2
    · rw [dif_neg h]
      have hm := Nat.mod_lt u (show 0 < 10 by decide)
      exact .more u _ _ h (ih _ (by omega)) (hd _ hm).1 (hd _ hm).2
theorem dig_get : ∀ m, m < 16 → hexB ((strAt DIG (I m)).toNat.toUInt8) = m ∧ aln ((strAt DIG (I m)).toNat.toUInt8) = true := by decide
theorem and15 (u : Nat) (hu : u < 18446744073709551616) : bits BinOp.and IntKind.u64 (I u) 15 = I (u % 16) := by
  have e := bits_and_u64_nat u 15 hu (by decide)
  have e2 : u &&& 15 = u % 16 := Nat.and_two_pow_sub_one_eq_mod u 4
  rw [e2] at e
  exact e
theorem bits_loop : ∀ (k u i : Nat) (a : En.Dop.Ar65), u < 16 ^ k → 0 < k → k ≤ i → i ≤ 65 → k ≤ 9 →
    ∃ l, Num 16 u l ∧ Tryd.m50_11 [] (I u) false false [] [] (I i) 4 16 15 a = some (([], (l ++ ((toA a).drop i).map (fun (k : Int) => k.toNat.toUInt8), ())), ())
  | 0, u, i, a, hu, h0, _, _, _ => absurd h0 (Nat.lt_irrefl 0)
  | k + 1, u, i, a, hu, h0, hk, hi, hk9 => by
    have hu64 : u < 18446744073709551616 := by
      have h1 : 16 ^ (k + 1) ≤ 16 ^ 9 := Nat.pow_le_pow_right (by decide) hk9
      have h2 : (16 : Nat) ^ 9 < 18446744073709551616 := by decide
      omega
    have e1 : I i - 1 = I (i - 1) := by simp only [I_eq]; omega
    have e2 : inR (I (i - 1)) = true := by rw [inR_iff]; simp only [I_eq]; omega
    have e3 : (0 : Int) ≤ I (i - 1) ∧ I (i - 1) < I 65 := by simp only [I_eq]; omega
    have hm := Nat.mod_lt u (show 0 < 16 by decide)
    by_cases h : 16 ≤ u
    · obtain ⟨l, h1, h2⟩ := bits_loop k (u / 16) (i - 1) (wrA a (i - 1) (strAt DIG (I (u % 16)))) (by rw [Nat.pow_succ] at hu; omega) (by
        rcases Nat.eq_zero_or_pos k with rfl | h'
        · simp at hu; omega
        · exact h') (by omega) (by omega) (by omega)
      obtain ⟨d1, d2⟩ := dig_get _ hm
      refine ⟨l ++ [(strAt DIG (I (u % 16))).toNat.toUInt8], .more u l _ (by omega) h1 d1 d2, ?_⟩
      rw [toA_drop a (i - 1) (by omega)] at h2
      have e5 : i - 1 + 1 = i := by omega
      rw [e5] at h2
      rw [Tryd.m50_11_eq, e1]
      have c1 : (16 : Int) ≤ I u := by simp only [I_eq]; omega
      rw [if_pos (decide_eq_true c1), if_pos e2, and15 u hu64, if_pos (decide_eq_true ⟨by simp only [I_eq]; omega, by show I (u % 16) < 36; simp only [I_eq]; omega⟩), if_pos (decide_eq_true e3),
        if_pos (decide_eq_true (by rw [I_nat]; show i - 1 < 65; omega)), if_pos (decide_eq_true ⟨by decide, by decide⟩), I_nat]
      have e6 : I u / (2 : Int) ^ Int.toNat 4 = I (u / 16) := by
        show I u / 16 = _
        simp only [I_eq]
        omega
      rw [e6]
      refine h2.trans ?_
      rw [List.map_cons, List.append_assoc]
      rfl
    · obtain ⟨d1, d2⟩ := dig_get u (by omega)
      refine ⟨[(strAt DIG (I u)).toNat.toUInt8], .one u _ (by omega) d1 d2, ?_⟩
      have hd := toA_drop a (i - 1) (by omega) (strAt DIG (I u))
      have e5 : i - 1 + 1 = i := by omega
      rw [e5] at hd
      rw [Tryd.m50_11_eq, e1]
      have c1 : ¬ (16 : Int) ≤ I u := by simp only [I_eq]; omega
      rw [if_neg (by simpa using c1), if_pos e2, if_pos (decide_eq_true ⟨I_nn _, by show I u < 36; simp only [I_eq]; omega⟩), if_pos (decide_eq_true e3), I_nat, if_pos (decide_eq_true (by show i - 1 < 65; omega)), if_neg (by decide), if_neg (by decide),
        if_pos (decide_eq_true ⟨e3.1, by simp only [I_eq]; omega, Int.le_refl _, e3.2⟩), if_pos (decide_eq_true (by rw [I_nat]; show 0 + (i - 1) + (65 - (i - 1)) ≤ 65; omega))]
      show some (([], (List.map (fun (k : Int) => k.toNat.toUInt8) (List.take (65 - (i - 1)) (List.drop (0 + (i - 1)) (toA (wrA a (i - 1) (strAt DIG (I u)))))), ())), ()) = _
      rw [Nat.zero_add, List.take_of_length_le (by rw [List.length_drop, toA_len]; exact Nat.le_refl _), hd]
      rfl
theorem format16 (n : Nat) (hn : n ≤ 4294967295) : ∃ l, Num 16 n l ∧ Tryd.m20 (I n) 16 = some ((l, ()), ()) := by
  obtain ⟨l, h1, h2⟩ := bits_loop 8 n 65 ⟨0, 0, 0, 0, 0, 0, 0, 0, 0, 0, 0, 0, 0, 0, 0, 0, 0, 0, 0, 0, 0, 0, 0, 0, 0, 0, 0, 0, 0, 0, 0, 0, 0, 0, 0, 0, 0, 0, 0, 0, 0, 0, 0, 0, 0, 0, 0, 0, 0, 0, 0, 0, 0, 0, 0, 0, 0, 0, 0, 0, 0, 0, 0, 0, 0⟩ (by show n < 4294967296; omega) (by decide) (by decide) (by decide) (by decide)
  refine ⟨l, h1, ?_⟩
  rw [Tryd.m20_eq, Tryd.m33_eq]
  have c2 : ¬ (I n < 0) := by simp only [I_eq]; omega
  have c3 : IntKind.u64.wrap (I n) = I n := by
    rw [IntKind.wrap_u64]
    simp only [I_eq]
    omega
  rw [if_neg (by simp), c3, decide_eq_false c2, Tryd.m50_eq, if_neg (by decide), if_neg (by decide), if_neg (by decide), Tryd.m50_3_eq, if_neg (by decide), Tryd.m59_eq, if_pos (by decide)]
  have c4 : decide (bits BinOp.and IntKind.i64 16 (16 - 1) = 0) = true := by decide +kernel
  rw [c4]
  simp only [Option.bind, if_true]
  rw [if_pos (by decide +kernel)]
  have e4 : IntKind.u64.wrap 4 = 4 := by decide +kernel
  have e16 : IntKind.u64.wrap 16 = 16 := by decide +kernel
  have e15 : IntKind.u64.wrap (16 - 1) = 15 := by decide +kernel
  rw [e16, e4, e15]
  have h2' := h2
  rw [List.drop_eq_nil_of_le (by rw [toA_len]; exact Nat.le_refl _), List.map_nil, List.append_nil] at h2'
  have h3 : Tryd.m50_11 [] (I n) false false [] [] 65 4 16 15 ⟨0, 0, 0, 0, 0, 0, 0, 0, 0, 0, 0, 0, 0, 0, 0, 0, 0, 0, 0, 0, 0, 0, 0, 0, 0, 0, 0, 0, 0, 0, 0, 0, 0, 0, 0, 0, 0, 0, 0, 0, 0, 0, 0, 0, 0, 0, 0, 0, 0, 0, 0, 0, 0, 0, 0, 0, 0, 0, 0, 0, 0, 0, 0, 0, 0⟩ = some (([], (l, ())), ()) := h2'
  rw [h3]
end Go.Proofs.Law
