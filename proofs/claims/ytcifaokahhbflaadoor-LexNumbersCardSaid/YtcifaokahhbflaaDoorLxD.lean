/-
  The program's white space, and its letters and digits, are the plain ones.
-/
import Derived.Test.YtcifaokahhbflaaDoorLxC
import Derived.Test.YtcifaokahhbflaaDoorScD
namespace Go.Proofs.Law
open Go Go.En Go.Proofs

set_option linter.unusedSimpArgs false in
theorem wordsL_eq : wordsL = Sc.words := by
  have h := Tryd.m31_eq
  unfold wordsL
  rw [h]
  rfl
set_option linter.unusedSimpArgs false in
theorem strAt_v {s : List UInt8} {k : Nat} {c : UInt8} {r : List UInt8} (h : s.drop k = c :: r) : strAt s (I k) = (c.toNat : Int) := by
  have hk : k < s.length := by
    apply Classical.byContradiction
    intro hn
    rw [List.drop_eq_nil_of_le (by omega)] at h
    cases h
  rw [List.drop_eq_getElem_cons hk] at h
  simp only [List.cons.injEq] at h
  unfold strAt
  rw [I_nat, List.getD, List.getElem?_eq_getElem hk, Option.getD_some, h.1]
set_option linter.unusedSimpArgs false in
theorem drop_lt {s : List UInt8} {k : Nat} {c : UInt8} {r : List UInt8} (h : s.drop k = c :: r) : k < s.length := by
  apply Classical.byContradiction
  intro hn
  rw [List.drop_eq_nil_of_le (by omega)] at h
  cases h
set_option linter.unusedSimpArgs false in
theorem drop_s {s : List UInt8} {k : Nat} {c : UInt8} {r : List UInt8} (h : s.drop k = c :: r) : s.drop (k + 1) = r := by
  rw [← List.drop_drop, h]; rfl
set_option linter.unusedSimpArgs false in
theorem byte_v (c : UInt8) : ((c.toNat : Int)).toNat.toUInt8 = c := by
  rw [Int.toNat_natCast]
  exact UInt8.ofNat_toNat
set_option linter.unusedSimpArgs false in
theorem toNat_byte (c : UInt8) (n : Nat) (hn : n < 256) : c.toNat = n ↔ c = n.toUInt8 := by
  constructor
  · intro h; rw [← h]; exact UInt8.ofNat_toNat.symm
  · intro h; rw [h]; show (UInt8.ofNat n).toNat = n; rw [UInt8.toNat_ofNat']; omega
set_option linter.unusedSimpArgs false in
theorem let_v (c : UInt8) : Tryd.m38 (c.toNat : Int) = some ((Sc.letB c, ()), ()) := by
  rw [Tryd.m38_eq]
  have e : Sc.letB c = decide ((97 ≤ c.toNat ∧ c.toNat ≤ 122) ∨ (65 ≤ c.toNat ∧ c.toNat ≤ 90) ∨ c.toNat = 95) := by
    unfold Sc.letB; simp only [Bool.decide_or, Bool.or_assoc]
  rw [e]
  simp only [decide_eq_true_eq]
  repeat' split
  all_goals simp only [Option.some.injEq, Prod.mk.injEq, and_true, decide_eq_decide]
  all_goals first
    | (rw [eq_comm, decide_eq_true_eq]; omega)
    | omega
set_option linter.unusedSimpArgs false in
theorem dig_v (c : UInt8) : Tryd.m40 (c.toNat : Int) = some ((Sc.digB c, ()), ()) := by
  rw [Tryd.m40_eq]
  unfold Sc.digB
  simp only [decide_eq_true_eq]
  repeat' split
  all_goals simp only [Option.some.injEq, Prod.mk.injEq, and_true, decide_eq_decide]
  all_goals first
    | (rw [eq_comm, decide_eq_false_iff_not]; omega)
    | omega
set_option linter.unusedSimpArgs false in
theorem let_v2 (c : UInt8) : Tryd.m24 (c.toNat : Int) = some ((Sc.letB c, ()), ()) := by
  rw [← let_v, Tryd.m38_eq, Tryd.m24_eq]
set_option linter.unusedSimpArgs false in
theorem dig_v2 (c : UInt8) : Tryd.m25 (c.toNat : Int) = some ((Sc.digB c, ()), ()) := by
  rw [← dig_v, Tryd.m40_eq, Tryd.m25_eq]
set_option linter.unusedSimpArgs false in
theorem indexByte_mem (c : UInt8) : ∀ l : List UInt8, (0 ≤ Lib.indexByte l c ↔ c ∈ l)
  | [] => by simp [Lib.indexByte]
  | b :: l => by
    have ih := indexByte_mem c l
    have hg := Lib.indexByte_ge l c
    unfold Lib.indexByte
    by_cases h : b = c
    · subst h; simp
    · have h' : ¬ c = b := fun e => h e.symm
      simp only [beq_iff_eq, h, if_false, List.mem_cons, h', false_or]
      split
      · rename_i hm; rw [hm] at ih; rw [← ih]
      · rename_i hm; rw [← ih]; omega
set_option linter.unusedSimpArgs false in
theorem ws_v (c : UInt8) : decide ((0 : Int) ≤ Lib.indexByte ((32 : UInt8) :: (9 : UInt8) :: (10 : UInt8) :: (13 : UInt8) :: @List.nil UInt8) c) = Sc.ws c := by
  have h := indexByte_mem c [32, 9, 10, 13]
  unfold Sc.ws
  rw [Bool.eq_iff_iff, decide_eq_true_eq, h]
  simp only [List.mem_cons, List.not_mem_nil, or_false, Bool.or_eq_true, beq_iff_eq, or_assoc]
set_option linter.unusedSimpArgs false in
theorem eol_ib : ∀ l : List UInt8, (Lib.indexByte l 10 < 0 ∧ Sc.eol l = []) ∨ (∃ n : Nat, Lib.indexByte l 10 = (n : Int) ∧ Sc.eol l = l.drop n ∧ n < l.length)
  | [] => .inl ⟨by simp [Lib.indexByte], rfl⟩
  | c :: r => by
    unfold Lib.indexByte Sc.eol
    by_cases h : c = 10
    · simp only [h, beq_self_eq_true, if_true]
      exact .inr ⟨0, rfl, rfl, by simp⟩
    · simp only [beq_iff_eq, h, if_false]
      rcases eol_ib r with ⟨h1, h2⟩ | ⟨n, h1, h2, h3⟩
      · have hg := Lib.indexByte_ge r 10
        have : Lib.indexByte r 10 = -1 := by omega
        exact .inl ⟨by rw [if_pos this]; omega, h2⟩
      · refine .inr ⟨n + 1, ?_, ?_, ?_⟩
        · rw [if_neg (by omega), h1]; omega
        · rw [h2]; rfl
        · simp only [List.length_cons]; omega
set_option linter.unusedSimpArgs false in
theorem eoc_ix : ∀ l : List UInt8, (Lib.index l [42, 47] < 0 ∧ Sc.eoc l = none) ∨ (∃ n : Nat, Lib.index l [42, 47] = (n : Int) ∧ Sc.eoc l = some (l.drop (n + 2)) ∧ n + 2 ≤ l.length)
  | [] => .inl ⟨by simp [Lib.index], rfl⟩
  | c :: r => by
    unfold Lib.index Sc.eoc
    have hp : (([42, 47] : List UInt8).isPrefixOf (c :: r) = true) ↔ (c = 42 ∧ r.head? = some 47) := by
      cases r with
      | nil => simp [List.isPrefixOf]
      | cons b r =>
        rw [List.isPrefixOf_iff_prefix]
        simp only [List.cons_prefix_cons, List.nil_prefix, and_true, List.head?_cons, Option.some.injEq]
        exact ⟨fun ⟨a, b⟩ => ⟨a.symm, b.symm⟩, fun ⟨a, b⟩ => ⟨a.symm, b.symm⟩⟩
    by_cases h : c = 42 ∧ r.head? = some 47
    · rw [if_pos (hp.2 h), if_pos h]
      refine .inr ⟨0, rfl, ?_, ?_⟩
      · cases r with
        | nil => simp at h
        | cons b r => rfl
      · cases r with
        | nil => simp at h
        | cons b r => simp
    · rw [if_neg (fun e => h (hp.1 e)), if_neg h]
      rcases eoc_ix r with ⟨h1, h2⟩ | ⟨n, h1, h2, h3⟩
      · have hg := Lib.index_ge r [42, 47]
        have : Lib.index r [42, 47] = -1 := by omega
        exact .inl ⟨by rw [if_pos (by simpa using this)]; omega, h2⟩
      · refine .inr ⟨n + 1, ?_, ?_, ?_⟩
        · rw [if_neg (by rw [h1]; simp), h1]; omega
        · rw [h2]; rfl
        · simp only [List.length_cons]; omega
set_option linter.unusedSimpArgs false in
theorem pre2_v (c a b : UInt8) (r : List UInt8) : Lib.hasPrefix (c :: r) (a :: b :: @List.nil UInt8) = decide (c = a ∧ r.head? = some b) := by
  unfold Lib.hasPrefix
  rw [Bool.eq_iff_iff, decide_eq_true_eq]
  cases r with
  | nil => simp [List.isPrefixOf]
  | cons d r =>
    rw [List.isPrefixOf_iff_prefix]
    simp only [List.cons_prefix_cons, List.nil_prefix, and_true, List.head?_cons, Option.some.injEq]
    exact ⟨fun ⟨a, b⟩ => ⟨a.symm, b.symm⟩, fun ⟨a, b⟩ => ⟨a.symm, b.symm⟩⟩
set_option linter.unusedSimpArgs false in
theorem take_all (s : List UInt8) : List.take (I s.length).toNat s = s := by rw [I_nat]; exact List.take_length
set_option linter.unusedSimpArgs false in
/-- The program's white space. -/
theorem space_v (s : List UInt8) (hs : s.length ≤ 1000000) : ∀ u : List UInt8, ∀ k, s.drop k = u → k ≤ s.length → Tryd.m21_2 s (I k) = some ((I (s.length - (Sc.skipL u).1.length), ((Sc.skipL u).2, ())), ()) := by
  have hin : ∀ n : Nat, n ≤ 2000000 → inR (I n) = true := fun n hn => by rw [inR_iff]; simp only [I_eq]; omega
  have base : ∀ u k, s.drop k = u → k ≤ s.length → u.length = s.length - k := fun u k h _ => by rw [← h, List.length_drop]
  refine Sc.skip_ind ?_ ?_ ?_ ?_ ?_ ?_
  · intro k h hk
    have hl := base _ _ h hk
    have : k = s.length := by simp only [List.length_nil] at hl; omega
    subst this
    rw [Tryd.m21_2_eq, Sc.skip_nil]
    simp only [I_nlt, decide_false, Bool.false_eq_true, if_false, List.length_nil, Nat.sub_zero]
  all_goals intro c r
  · intro hw ih k h hk
    have hlt := drop_lt h
    rw [Tryd.m21_2_eq, Sc.skip_ws _ hw]
    simp only [I_lt hlt, I_nn, Int.le_refl, Int.le_of_lt (I_lt hlt), and_self, decide_true, if_true, strAt_v h, byte_v, ws_v, hw, I_s, hin (k + 1) (by omega)]
    exact ih (k + 1) (drop_s h) hlt
  · rintro hw ⟨rfl, h2⟩ ih k h hk
    have hlt := drop_lt h
    have hd : List.drop (I k).toNat (List.take (I s.length).toNat s) = 47 :: r := by rw [take_all, I_nat, h]
    have hb : (Int.toNat (10 : Int)).toUInt8 = 10 := rfl
    have he : Sc.eol (47 :: r) = Sc.eol r := rfl
    have e1 : Lib.hasPrefix (47 :: r) (47 :: 47 :: @List.nil UInt8) = true := by rw [pre2_v, h2]; rfl
    rw [Tryd.m21_2_eq, Sc.skip_line hw ⟨rfl, h2⟩]
    simp only [I_lt hlt, I_nn, Int.le_refl, Int.le_of_lt (I_lt hlt), and_self, decide_true, if_true, strAt_v h, byte_v, ws_v, hw, hd, e1, Bool.false_eq_true, if_false, hb]
    rcases eol_ib (47 :: r) with ⟨g1, g2⟩ | ⟨n, g1, g2, g3⟩
    · rw [he] at g2
      simp only [g1, decide_true, if_true, g2, Sc.skip_nil, List.length_nil, Nat.sub_zero]
    · rw [he] at g2
      have hnn : ¬ ((n : Int) < 0) := by omega
      have hx : I k + (n : Int) = I (k + n) := by simp only [I_eq]; omega
      have hl := base _ _ h hk
      simp only [g1, hnn, decide_false, Bool.false_eq_true, if_false, hx, hin (k + n) (by omega), if_true]
      exact ih (k + n) (by rw [← List.drop_drop, h]; exact g2.symm) (by omega)
  · rintro hw ⟨rfl, h2⟩ h3 k h hk
    have hlt := drop_lt h
    have hl := base _ _ h hk
    cases r with
    | nil => simp at h2
    | cons b r =>
    simp only [List.head?_cons, Option.some.injEq] at h2
    subst h2
    have hd : List.drop (I k).toNat (List.take (I s.length).toNat s) = 47 :: 42 :: r := by rw [take_all, I_nat, h]
    have hd2 : List.drop (Int.toNat (2 : Int)) (List.take (I ((47 : UInt8) :: 42 :: r).length).toNat (47 :: 42 :: r)) = r := by rw [take_all]; rfl
    have hl2 : (2 : Int) ≤ I ((47 : UInt8) :: 42 :: r).length := by simp only [I_eq, List.length_cons]; omega
    have ho : okS r = true := decide_eq_true (by simp only [List.length_cons] at hl; omega)
    have e1 : Lib.hasPrefix (47 :: 42 :: r) (47 :: 47 :: @List.nil UInt8) = false := by rw [pre2_v]; rfl
    have e2 : Lib.hasPrefix (47 :: 42 :: r) (47 :: 42 :: @List.nil UInt8) = true := by rw [pre2_v]; rfl
    have g4 : (0 : Int) ≤ 2 := by decide
    rw [Tryd.m21_2_eq, Sc.skip_bad hw ⟨rfl, rfl⟩ h3]
    simp only [I_lt hlt, I_nn, Int.le_refl, Int.le_of_lt (I_lt hlt), and_self, decide_true, if_true, strAt_v h, byte_v, ws_v, hw, hd, e1, e2, Bool.false_eq_true, if_false, hd2, hl2, ho, g4]
    rcases eoc_ix r with ⟨g1, g2⟩ | ⟨n, g1, g2, g3⟩
    · simp only [g1, decide_true, if_true, hl, show s.length - (s.length - k) = k by omega]
    · simp only [List.tail_cons] at h3; rw [h3] at g2; cases g2
  · rintro x hw ⟨rfl, h2⟩ h3 ih k h hk
    have hlt := drop_lt h
    have hl := base _ _ h hk
    cases r with
    | nil => simp at h2
    | cons b r =>
    simp only [List.head?_cons, Option.some.injEq] at h2
    subst h2
    have hd : List.drop (I k).toNat (List.take (I s.length).toNat s) = 47 :: 42 :: r := by rw [take_all, I_nat, h]
    have hd2 : List.drop (Int.toNat (2 : Int)) (List.take (I ((47 : UInt8) :: 42 :: r).length).toNat (47 :: 42 :: r)) = r := by rw [take_all]; rfl
    have hl2 : (2 : Int) ≤ I ((47 : UInt8) :: 42 :: r).length := by simp only [I_eq, List.length_cons]; omega
    have ho : okS r = true := decide_eq_true (by simp only [List.length_cons] at hl; omega)
    have e1 : Lib.hasPrefix (47 :: 42 :: r) (47 :: 47 :: @List.nil UInt8) = false := by rw [pre2_v]; rfl
    have e2 : Lib.hasPrefix (47 :: 42 :: r) (47 :: 42 :: @List.nil UInt8) = true := by rw [pre2_v]; rfl
    have g4 : (0 : Int) ≤ 2 := by decide
    rw [Tryd.m21_2_eq, Sc.skip_com hw ⟨rfl, rfl⟩ h3]
    simp only [I_lt hlt, I_nn, Int.le_refl, Int.le_of_lt (I_lt hlt), and_self, decide_true, if_true, strAt_v h, byte_v, ws_v, hw, hd, e1, e2, Bool.false_eq_true, if_false, hd2, hl2, ho, g4]
    rcases eoc_ix r with ⟨g1, g2⟩ | ⟨n, g1, g2, g3⟩
    · simp only [List.tail_cons] at h3; rw [h3] at g2; cases g2
    · simp only [List.tail_cons] at h3
      rw [h3] at g2
      simp only [Option.some.injEq] at g2
      have hnn : ¬ ((n : Int) < 0) := by omega
      have hx0 : (n : Int) + 4 = I (n + 4) := by simp only [I_eq]; omega
      have hx : I k + I (n + 4) = I (k + (n + 4)) := by simp only [I_eq]; omega
      simp only [List.length_cons] at hl
      simp only [g1, hnn, decide_false, Bool.false_eq_true, if_false, hx0, hx, hin (n + 4) (by omega), hin (k + (n + 4)) (by omega), if_true]
      refine ih (k + (n + 4)) ?_ (by omega)
      rw [← List.drop_drop, h, g2]
      rfl
  · intro hw h2 h3 k h hk
    have hlt := drop_lt h
    have hd : List.drop (I k).toNat (List.take (I s.length).toNat s) = c :: r := by rw [take_all, I_nat, h]
    have hl := base _ _ h hk
    rw [Tryd.m21_2_eq, Sc.skip_not hw h2 h3]
    simp only [I_lt hlt, I_nn, Int.le_refl, Int.le_of_lt (I_lt hlt), and_self, decide_true, if_true, strAt_v h, byte_v, ws_v, hw, hd, pre2_v, h2, h3, Bool.false_eq_true, if_false, decide_false, hl, show s.length - (s.length - k) = k by omega]
set_option linter.unusedSimpArgs false in
theorem spaces_v (s : List UInt8) (hs : s.length ≤ 1000000) : Tryd.m21 s = some ((I (s.length - (Sc.skipL s).1.length), ((Sc.skipL s).2, ())), ()) := by
  rw [Tryd.m21_eq]
  exact space_v s hs s 0 rfl (Nat.zero_le _)
set_option linter.unusedSimpArgs false in
/-- How many bytes are letters and digits. -/
theorem run_v (s : List UInt8) (hs : s.length ≤ 1000000) : ∀ (u : List UInt8) k, s.drop k = u → k ≤ s.length → Tryd.m39_2 s (I k) = some ((I (k + (u.takeWhile Sc.aln).length), ()), ())
  | [], k, h, hk => by
    have hl : 0 = s.length - k := by rw [← List.length_drop, h]; rfl
    have : k = s.length := by omega
    subst this
    rw [Tryd.m39_2_eq]
    simp only [I_nlt, decide_false, Bool.false_eq_true, if_false, List.takeWhile_nil, List.length_nil, Nat.add_zero]
  | c :: r, k, h, hk => by
    have hlt := drop_lt h
    have hin : inR (I (k + 1)) = true := by rw [inR_iff]; simp only [I_eq]; omega
    have ih := run_v s hs r (k + 1) (drop_s h) hlt
    rw [Tryd.m39_2_eq, List.takeWhile_cons]
    simp only [I_lt hlt, I_nn, and_self, decide_true, if_true, strAt_v h, let_v, dig_v, Option.bind, I_s, hin]
    cases h1 : Sc.letB c with
    | true =>
      simp only [Sc.aln, h1, Bool.true_or, if_true, List.length_cons]
      rw [ih]; simp only [Nat.add_assoc, Nat.add_comm 1]
    | false =>
      cases h2 : Sc.digB c with
      | true =>
        simp only [Sc.aln, h1, h2, Bool.false_or, Bool.false_eq_true, if_false, if_true, List.length_cons]
        rw [ih]; simp only [Nat.add_assoc, Nat.add_comm 1]
      | false => simp only [Sc.aln, h1, h2, Bool.or_self, Bool.false_eq_true, if_false, List.length_nil, Nat.add_zero]
end Go.Proofs.Law
