/-
  LexSpaces and LexBytes are true.
-/
import Derived.Test.YtcifaokahhbflaaDoorLxJ
namespace Go.Proofs.Law
open Go Go.En Go.Proofs

set_option linter.unusedSimpArgs false in
theorem strike_loop7 : ∀ (j k : Nat) (l m : List En.Dop.Tok), k + j = l.length → m.length = l.length → l.length ≤ 1000000 → struck k l = struck k m → Tryd.m7_27 l m (I l.length) (I k) = some ((true, ()), ())
  | 0, k, l, m, e, hm, hl, hs => by
    have e : k = l.length := by omega
    subst e
    rw [Tryd.m7_27_eq, if_neg (by simp)]
    have : l = m := by
      rw [struck_all] at hs
      rw [← hm, struck_all] at hs
      exact hs
    subst this
    refine (ob (same_v l hl)).trans ?_
    rw [if_pos rfl]
    exact ob awake_v
  | j + 1, k, l, m, e, hm, hl, hs => by
    have hk : k < l.length := by omega
    have hkm : k < m.length := by omega
    have ih := strike_loop7 j (k + 1) (l.set k (Sc.strip (l.getD k Dop.d4))) (m.set k (Sc.strip (m.getD k Dop.d4))) (by rw [List.length_set]; omega) (by rw [List.length_set, List.length_set]; omega) (by rw [List.length_set]; omega) (by rw [struck_set hk, struck_set hkm]; exact hs)
    rw [List.length_set] at ih
    rw [Tryd.m7_27_eq]
    simp only [I_lt hk, hk, I_lt hkm, hkm, I_nn, I_nat, I_s, inI (n := k + 1) (by omega), and_self, decide_true, if_true, strip_mk]
    exact ih
set_option linter.unusedSimpArgs false in
/-- Whether a source ends within a comment. -/
theorem open_v (a : List UInt8) (ha : a.length ≤ 2000) : ∃ b, Tryd.m18 a = some ((b, ()), ()) ∧ (b = false → (scanR [] (scanA (a ++ [10, 120]))).1.1.length = (scanR [] (scanA (a ++ [32, 120]))).1.1.length) := by
  have k1 : a.length + ([10, 120] : List UInt8).length ≤ 9223372036854775807 := by simp only [List.length_cons, List.length_nil]; omega
  have k2 : a.length + ([32, 120] : List UInt8).length ≤ 9223372036854775807 := by simp only [List.length_cons, List.length_nil]; omega
  refine ⟨!decide (I (scanR [] (scanA (a ++ [10, 120]))).1.1.length = I (scanR [] (scanA (a ++ [32, 120]))).1.1.length), ?_, ?_⟩
  · rw [Tryd.m18_eq, if_pos (decide_eq_true k1)]
    refine (ob (scan_v _)).trans ?_
    rw [if_pos (decide_eq_true k2)]
    refine (ob (scan_v _)).trans ?_
    rfl
  · intro h
    simp only [Bool.not_eq_false', decide_eq_true_eq] at h
    simp only [I_eq] at h
    omega
set_option linter.unusedSimpArgs false in
theorem scanA_small {s : List UInt8} (h : s.length ≤ 32768) : scanA s = Sc.scanL 0 0 s := by
  unfold scanA
  rw [if_neg (by omega)]
set_option linter.unusedSimpArgs false in
theorem strip_same {m n : Sc.Scn} (h : m.strip = n.strip) : (scanR [] m).1.2.2.1 = (scanR [] n).1.2.2.1 ∧ (scanR [] m).1.1.map Sc.strip = (scanR [] n).1.1.map Sc.strip := by
  cases m with
  | err a e =>
    cases n with
    | err b f => simp only [Sc.Scn.strip, Sc.Scn.err.injEq, true_and] at h; exact ⟨h, rfl⟩
    | ok l => cases h
  | ok l =>
    cases n with
    | err b f => cases h
    | ok k => simp only [Sc.Scn.strip, Sc.Scn.ok.injEq] at h; exact ⟨rfl, by simpa [scanR] using h⟩
set_option linter.unusedSimpArgs false in
theorem spaces_loop (a x y : List UInt8) (ha : a.length ≤ 2000) (la : List En.Dop.Tok) (hla : Sc.scanL 0 0 a = .ok la) (mx my : Sc.Scn) (hx : (scanR [] mx).1.1.length ≤ 1000000) (hy : (scanR [] my).1.1.length ≤ 1000000)
    (hsame : (Sc.Shut a 0 la) → mx.strip = my.strip) (hat : ∀ t ∈ (scanR [] mx).1.1, -1000000 ≤ t.at_ ∧ t.at_ ≤ 1000000 ∧ t.text.length ≤ 1000000) : ∀ (n k : Nat), k + n = (scanR [] mx).1.1.length →
    Tryd.m7_16 a (scanR [] mx).1.2.2.1 (scanR [] my).1.1 (scanR [] my).1.2.2.1 (I (scanR [] mx).1.1.length) (I k) (scanR [] mx).1.1 = some ((true, ()), ())
  | 0, k, e => by
    have e : k = (scanR [] mx).1.1.length := by omega
    subst e
    have k1 : a.length + ([32] : List UInt8).length ≤ 9223372036854775807 := by simp only [List.length_cons, List.length_nil]; omega
    rw [Tryd.m7_16_eq, if_neg (by simp), if_pos (decide_eq_true k1)]
    refine (ob (scan_v _)).trans ?_
    by_cases c1 : (!decide ((scanR [] (scanA (a ++ [32]))).1.2.2.1 = 0)) = true
    · rw [if_pos c1]; exact ob awake_v
    rw [if_neg c1]
    by_cases c2 : decide (I (scanR [] (scanA (a ++ [32]))).1.1.length = 0) = true
    · rw [if_pos c2]; exact ob awake_v
    rw [if_neg c2]
    have hq := scanR_len (a ++ [32])
    have hq0 : 0 < (scanR [] (scanA (a ++ [32]))).1.1.length := by
      rw [decide_eq_true_eq] at c2
      simp only [I_eq] at c2
      omega
    have e1 : I (scanR [] (scanA (a ++ [32]))).1.1.length - 1 = I ((scanR [] (scanA (a ++ [32]))).1.1.length - 1) := by simp only [I_eq]; omega
    rw [e1, if_pos (inI (n := (scanR [] (scanA (a ++ [32]))).1.1.length - 1) (by omega)), if_pos (decide_eq_true ⟨I_nn _, I_lt (by omega)⟩), if_pos (decide_eq_true (by rw [I_nat]; omega)), if_pos (by rw [I_s]; exact inI (by omega))]
    split
    · exact ob awake_v
    obtain ⟨b, ho, hb⟩ := open_v a ha
    refine (ob ho).trans ?_
    cases b with
    | true => rw [if_pos rfl]; exact ob awake_v
    | false =>
      rw [if_neg (by simp)]
      have hshut : Sc.Shut a 0 la := by
        rcases Sc.scan_app _ _ _ _ hla with h | h
        · exact h
        · exfalso
          have h1 := (Sc.joined_len _ _ _ _ hla).2
          obtain ⟨m, n, g1, g2, g3⟩ := Sc.open_told h (by omega) (Sc.scan_ne _ _ _ _ hla)
          have g4 := hb rfl
          rw [scanA_small (by simp only [List.length_append, List.length_cons, List.length_nil]; omega), scanA_small (by simp only [List.length_append, List.length_cons, List.length_nil]; omega), g1, g2] at g4
          simp only [scanR, List.nil_append] at g4
          omega
      obtain ⟨s1, s2⟩ := strip_same (hsame hshut)
      have s3 : (scanR [] my).1.1.length = (scanR [] mx).1.1.length := by
        have := congrArg List.length s2
        simpa using this.symm
      rw [if_neg (by simp [s1]), if_neg (by simp [s3])]
      exact strike_loop7 (scanR [] mx).1.1.length 0 _ _ (Nat.zero_add _) s3 hx (by rw [struck_0, struck_0, s2])
  | n + 1, k, e => by
    have hk : k < (scanR [] mx).1.1.length := by omega
    have ih := spaces_loop a x y ha la hla mx my hx hy hsame hat n (k + 1) (by omega)
    have hg : (scanR [] mx).1.1.getD k Dop.d4 ∈ (scanR [] mx).1.1 := by
      have : (scanR [] mx).1.1.getD k Dop.d4 = (scanR [] mx).1.1[k] := by simp [List.getD, hk]
      rw [this]
      exact List.getElem_mem hk
    obtain ⟨h1, h2, h3⟩ := hat _ hg
    have hi : inR (((scanR [] mx).1.1.getD k Dop.d4).at_ + I ((scanR [] mx).1.1.getD k Dop.d4).text.length) = true := by
      rw [inR_iff]; simp only [I_eq]; omega
    rw [Tryd.m7_16_eq]
    rw [if_pos (decide_eq_true (I_lt hk)), if_pos (decide_eq_true ⟨I_nn _, I_lt hk⟩), if_pos (decide_eq_true (by rw [I_nat]; exact hk)), I_nat, I_s, if_pos (inI (n := k + 1) (by omega)), if_pos hi]
    split
    · split
      · exact ob awake_v
      · exact ih
    · exact ih
set_option linter.unusedSimpArgs false in
theorem at_bound (S : List UInt8) : ∀ (l : List En.Dop.Tok) (a : Nat), Sc.Pl S a l → ∀ t ∈ l, 0 ≤ t.at_ ∧ t.at_ ≤ S.length ∧ t.text.length ≤ S.length
  | [], _, h, _, _ => h.elim
  | t :: r, a, h, u, hu => by
    rcases h with ⟨h1, h2, h3⟩ | ⟨h1, _, _, _, _, _, p, h7, h8, h9, h10, h11⟩
    · subst h1; subst h2
      rcases List.mem_cons.1 hu with rfl | hu
      · exact ⟨by show (0 : Int) ≤ (S.length : Int); omega, by show (S.length : Int) ≤ _; omega, by show 0 ≤ S.length; omega⟩
      · cases hu
    · rcases List.mem_cons.1 hu with rfl | hu
      · exact ⟨by omega, by omega, by omega⟩
      · exact at_bound S r _ h11 u hu
set_option linter.unusedSimpArgs false in
theorem spaces_main (a b w : List UInt8) (ha : a.length ≤ 2000) (hb : b.length ≤ 2000) (hwl : w.length ≤ 200) (hw : Sc.Between w) {R : Option (Spec.D En.Dop.D2 ⟨[.fd .bool], []⟩)} (hR : R =
   (Tryd.m11 (a ++ (32 : UInt8) :: @List.nil UInt8 ++ b)).bind fun y3 =>
    (Tryd.m11 (a ++ (32 : UInt8) :: @List.nil UInt8 ++ w ++ b)).bind fun y4 =>
     (Tryd.m11 (a)).bind fun y5 =>
      if (!decide (y5.fst.snd.snd.fst = (0 : Int))) = true then
       (Tryd.m10).bind fun y7 =>
        some ((y7.fst.fst, ()), ())
      else
       Tryd.m7_16 (a) (y3.fst.snd.snd.fst) (y4.fst.fst) (y4.fst.snd.snd.fst) (I y3.fst.fst.length) ((0 : Int)) (y3.fst.fst)) : R = some ((true, ()), ()) := by
  rw [hR]
  refine (ob (scan_v _)).trans ?_
  refine (ob (scan_v _)).trans ?_
  refine (ob (scan_v _)).trans ?_
  cases h : scanA a with
  | err p e =>
    have he : e ≠ 0 := by rcases scanA_err h with h | h | h <;> omega
    rw [if_pos (by simp [scanR, he])]
    exact ob awake_v
  | ok la =>
    rw [if_neg (by simp [scanR])]
    have h2 := scanA_ok h
    refine spaces_loop a b w ha la h2 _ _ (scanR_len _) (scanR_len _) (fun hs => ?_) (fun t ht => ?_) _ 0 (Nat.zero_add _)
    · rw [scanA_small (by simp only [List.length_append, List.length_cons, List.length_nil]; omega), scanA_small (by simp only [List.length_append, List.length_cons, List.length_nil]; omega)]
      have := Sc.spaces hs b hw
      simpa using this
    · cases hm : scanA (a ++ [32] ++ b) with
      | err p e => rw [hm] at ht; cases ht
      | ok l =>
        have h3 := scanA_ok hm
        have h4 := Sc.places _ _ _ _ _ h3 rfl (Nat.zero_le _)
        rw [hm] at ht
        have ht' : t ∈ l := by simpa [scanR] using ht
        have h5 := at_bound _ _ _ h4 t ht'
        have h6 : (a ++ [32] ++ b).length ≤ 5000 := by simp only [List.length_append, List.length_cons, List.length_nil]; omega
        omega
set_option linter.unusedSimpArgs false in
theorem comment_loop (a b c : List UInt8) (kind : Int) (ha : a.length ≤ 2000) (hb : b.length ≤ 2000) (hc : c.length ≤ 100) (hk : 0 ≤ kind ∧ kind ≤ 255) : ∀ (u : List UInt8) (k : Nat), c.drop k = u → k ≤ c.length → (42 : UInt8) ∉ c.take k → (10 : UInt8) ∉ c.take k → Tryd.m7_4 a b c kind (I c.length) (I k) = some ((true, ()), ())
  | [], k, h, hkl, h1, h2 => by
    have hl : 0 = c.length - k := by rw [← List.length_drop, h]; rfl
    have : k = c.length := by omega
    subst this
    rw [List.take_length] at h1 h2
    have l1 : ∀ x y : UInt8, ([x, y] : List UInt8).length + c.length ≤ 9223372036854775807 := fun x y => by simp only [List.length_cons, List.length_nil]; omega
    have l2 : ∀ x y z : UInt8, (([x, y] : List UInt8) ++ c).length + ([z] : List UInt8).length ≤ 9223372036854775807 := fun x y z => by simp only [List.length_append, List.length_cons, List.length_nil]; omega
    have l3 : ∀ x y z v : UInt8, (([x, y] : List UInt8) ++ c).length + ([z, v] : List UInt8).length ≤ 9223372036854775807 := fun x y z v => by simp only [List.length_append, List.length_cons, List.length_nil]; omega
    have l4 : a.length + ([32] : List UInt8).length ≤ 9223372036854775807 := by simp only [List.length_cons, List.length_nil]; omega
    have l5 : (a ++ [32]).length + b.length ≤ 9223372036854775807 := by simp only [List.length_append, List.length_cons, List.length_nil]; omega
    have l6 : ∀ w : List UInt8, w.length ≤ 200 → (a ++ [32]).length + w.length ≤ 9223372036854775807 := fun w hw => by simp only [List.length_append, List.length_cons, List.length_nil]; omega
    have l7 : ∀ w : List UInt8, w.length ≤ 200 → (a ++ [32] ++ w).length + b.length ≤ 9223372036854775807 := fun w hw => by simp only [List.length_append, List.length_cons, List.length_nil]; omega
    have ht : kind.tmod 4 = kind % 4 := Int.tmod_eq_emod_of_nonneg hk.1
    have h4 : kind % 4 = 0 ∨ kind % 4 = 1 ∨ kind % 4 = 2 ∨ kind % 4 = 3 := by omega
    have n4 : (4 : Int) ≠ 0 := by decide
    rw [Tryd.m7_4_eq, if_neg (by simp), if_pos (decide_eq_true (l1 _ _)), if_pos (decide_eq_true (l2 _ _ _)), if_pos (decide_eq_true (l1 _ _)), if_pos (decide_eq_true (l3 _ _ _ _)), if_pos (decide_eq_true n4), ht]
    rcases h4 with h4 | h4 | h4 | h4
    · rw [h4, if_pos (by rfl), if_pos (by rfl), if_pos (decide_eq_true l4), if_pos (decide_eq_true l5)]
      refine spaces_main a b [10] ha hb (by simp) (Sc.between_ws (by decide)) ?_
      simp only [l4, l6 [10] (by simp), l7 [10] (by simp), decide_true, if_true, Int.toNat_zero, List.getD_cons_zero]
    · rw [h4, if_pos (by rfl), if_pos (by rfl), if_pos (decide_eq_true l4), if_pos (decide_eq_true l5)]
      have hg : ∀ (x y : List UInt8) (r : List (List UInt8)), (x :: y :: r).getD (Int.toNat 1) [] = y := fun _ _ _ => rfl
      refine spaces_main a b [9, 32, 13, 10] ha hb (by simp) (Sc.between_ws (by decide)) ?_
      simp only [hg, l4, l6 [9, 32, 13, 10] (by simp), l7 [9, 32, 13, 10] (by simp), decide_true, if_true]
    · rw [h4, if_pos (by rfl), if_pos (by rfl), if_pos (decide_eq_true l4), if_pos (decide_eq_true l5)]
      have hg : ∀ (x y z : List UInt8) (r : List (List UInt8)), (x :: y :: z :: r).getD (Int.toNat 2) [] = z := fun _ _ _ _ => rfl
      have hwl : (47 :: 47 :: @List.nil UInt8 ++ c ++ 10 :: @List.nil UInt8).length ≤ 200 := by simp only [List.length_append, List.length_cons, List.length_nil]; omega
      refine spaces_main a b _ ha hb hwl (Sc.between_line h2) ?_
      simp only [hg, l4, l6 _ hwl, l7 _ hwl, decide_true, if_true]
    · rw [h4, if_pos (by rfl), if_pos (by rfl), if_pos (decide_eq_true l4), if_pos (decide_eq_true l5)]
      have hg : ∀ (x y z v : List UInt8) (r : List (List UInt8)), (x :: y :: z :: v :: r).getD (Int.toNat 3) [] = v := fun _ _ _ _ _ => rfl
      have hwl : (47 :: 42 :: @List.nil UInt8 ++ c ++ 42 :: 47 :: @List.nil UInt8).length ≤ 200 := by simp only [List.length_append, List.length_cons, List.length_nil]; omega
      refine spaces_main a b _ ha hb hwl (Sc.between_com h1) ?_
      simp only [hg, l4, l6 _ hwl, l7 _ hwl, decide_true, if_true]
  | d :: u, k, h, hkl, h1, h2 => by
    have hlt := drop_lt h
    have b42 : ((d.toNat : Int) = 42) ↔ d = 42 := byte_is d 42 (by decide)
    have b10 : ((d.toNat : Int) = 10) ↔ d = 10 := byte_is d 10 (by decide)
    have htk : c.take (k + 1) = c.take k ++ [d] := by
      rw [List.drop_eq_getElem_cons hlt] at h
      simp only [List.cons.injEq] at h
      rw [List.take_add_one, List.getElem?_eq_getElem hlt, h.1]
      rfl
    rw [Tryd.m7_4_eq]
    simp only [I_lt hlt, I_nn, and_self, decide_true, if_true, strAt_v h, b42, b10, I_s, inI (n := k + 1) (by omega)]
    by_cases c1 : d = 42
    · simp only [c1, decide_true, if_true]; exact ob awake_v
    · by_cases c2 : d = 10
      · have c3 : ¬ ((10 : UInt8) = 42) := by decide
        simp only [c2, c3, decide_true, decide_false, Bool.false_eq_true, if_false, if_true]; exact ob awake_v
      · simp only [c1, c2, decide_false, Bool.false_eq_true, if_false]
        refine comment_loop a b c kind ha hb hc hk u (k + 1) (drop_s h) hlt ?_ ?_
        · rw [htk]; simp only [List.mem_append, List.mem_singleton, not_or]; exact ⟨h1, fun e => c1 e.symm⟩
        · rw [htk]; simp only [List.mem_append, List.mem_singleton, not_or]; exact ⟨h2, fun e => c2 e.symm⟩
set_option linter.unusedSimpArgs false in
/-- LexSpaces. -/
theorem spaces_law (a b c : List UInt8) (kind : Int) (hk : 0 ≤ kind ∧ kind ≤ 255) : Tryd.m7 a b c kind = some ((true, ()), ()) := by
  rw [Tryd.m7_eq]
  by_cases h1 : (2000 : Int) < I a.length
  · rw [if_pos (decide_eq_true h1)]; exact ob awake_v
  rw [if_neg (by rw [decide_eq_true_eq]; exact h1)]
  by_cases h2 : (2000 : Int) < I b.length
  · rw [if_pos (decide_eq_true h2)]; exact ob awake_v
  rw [if_neg (by rw [decide_eq_true_eq]; exact h2)]
  by_cases h3 : (100 : Int) < I c.length
  · rw [if_pos (decide_eq_true h3)]; exact ob awake_v
  rw [if_neg (by rw [decide_eq_true_eq]; exact h3)]
  simp only [I_eq] at h1 h2 h3
  exact comment_loop a b c kind (by omega) (by omega) (by omega) hk c 0 rfl (Nat.zero_le _) (by simp) (by simp)
set_option linter.unusedSimpArgs false in
/-- LexBytes. -/
theorem bytes_law (c : Int) (_ : 0 ≤ c ∧ c ≤ 255) : Tryd.m8 c = some ((true, ()), ()) := by
  rw [Tryd.m8_eq]
  generalize hs : List.map (fun (x : Int) => (byX En.Dop.D2 (3 : Nat) x).toNat.toUInt8) (c :: @List.nil Int) = s
  have hl : s.length = 1 := by rw [← hs]; rfl
  have h13 := same_v _ (scanR_len s)
  refine (ob (scan_v s)).trans ?_
  refine (ob (scan_v2 s)).trans ?_
  cases h : scanA s with
  | err p e =>
    have he : e ≠ 0 := by rcases scanA_err h with h | h | h <;> omega
    rw [h] at h13
    rw [if_pos (by simp [scanR])]
    refine (ob h13).trans ?_
    rw [if_pos rfl, if_pos (decide_eq_true rfl), if_pos (decide_eq_true rfl), if_pos (by simp [scanR, he])]
    exact ob awake_v
  | ok l =>
    have h2 := scanA_ok h
    have h3 := (Sc.joined_len _ _ _ _ h2).2
    have h4 := Sc.places s _ _ _ _ h2 rfl (Nat.zero_le _)
    rw [h] at h13
    have hl2 : l.length ≤ 2 := by omega
    have hl0 : (scanR [] (Sc.Scn.ok l)).1.1 = l := List.nil_append l
    rw [hl0] at h13 ⊢
    rw [if_pos (decide_eq_true (by simp only [I_eq]; omega))]
    refine (ob h13).trans ?_
    rw [if_pos rfl, if_pos (decide_eq_true rfl), if_pos (decide_eq_true rfl), if_neg (by simp [scanR])]
    cases l with
    | nil => exact h4.elim
    | cons t r =>
    cases r with
    | nil => rw [if_pos (by rfl)]; exact ob awake_v
    | cons u q =>
    cases q with
    | cons v q => simp only [List.length_cons] at hl2; omega
    | nil =>
      have e1 : ¬ decide (I [t, u].length = 1) = true := by
        rw [decide_eq_true_eq]
        show ¬ ((2 : Nat) : Int) = 1
        decide
      have e2 : (0 : Int) ≤ 0 ∧ (0 : Int) < I [t, u].length := ⟨Int.le_refl _, by show (0 : Int) < ((2 : Nat) : Int); decide⟩
      have e3 : Int.toNat 0 < [t, u].length := by show 0 < 2; decide
      rw [if_neg e1, if_pos (decide_eq_true e2), if_pos (decide_eq_true e3)]
      rcases h4 with ⟨h5, _⟩ | ⟨_, _, _, _, _, h6, p, h7, h8, h9, h10, h11⟩
      · cases h5
      · have h12 : 0 < t.text.length := List.length_pos_iff.2 h6
        have hp : p = 0 := by omega
        subst hp
        have ht : t.text = s := by
          rw [← h10, List.drop_zero]
          exact List.take_of_length_le (by omega)
        have hgo : (@List.getD Dop.Tok [t, u] (Int.toNat (0 : Int)) Dop.d4).text = s := ht
        rw [if_pos (decide_eq_true hgo)]
        exact ob awake_v
end Go.Proofs.Law
