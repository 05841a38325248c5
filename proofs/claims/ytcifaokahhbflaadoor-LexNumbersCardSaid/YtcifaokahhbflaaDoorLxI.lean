/-
  LexScans and LexWords are true of every text.
-/
import Derived.Test.YtcifaokahhbflaaDoorLxH
namespace Go.Proofs.Law
open Go Go.En Go.Proofs

set_option linter.unusedSimpArgs false in
theorem scan_plus : Sc.scanL 0 0 [97, 43, 43, 43, 98] = .ok [⟨1, [97], 0, 0⟩, ⟨4, [43, 43], 0, 1⟩, ⟨4, [43], 0, 3⟩, ⟨1, [98], 0, 4⟩, Sc.fin 5] := by
  have t1 : Sc.tokL [97, 43, 43, 43, 98] = .tok 1 [97] 0 := by rfl
  have t2 : Sc.tokL [43, 43, 43, 98] = .tok 4 [43, 43] 0 := by rfl
  have t3 : Sc.tokL [43, 98] = .tok 4 [43] 0 := by rfl
  have t4 : Sc.tokL [98] = .tok 1 [98] 0 := by rfl
  rw [Sc.scan_tok 0 (Sc.skip_not (by decide) (by decide) (by decide)) t1 (by decide)]
  show (Sc.scanL 1 1 [43, 43, 43, 98]).cons _ = _
  rw [Sc.scan_tok 1 (Sc.skip_not (by decide) (by decide) (by decide)) t2 (by decide)]
  show ((Sc.scanL 3 2 [43, 98]).cons _).cons _ = _
  rw [Sc.scan_tok 3 (Sc.skip_not (by decide) (by decide) (by decide)) t3 (by decide)]
  show (((Sc.scanL 4 3 [98]).cons _).cons _).cons _ = _
  rw [Sc.scan_tok 4 (Sc.skip_not (by decide) (by decide) (by decide)) t4 (by decide)]
  show ((((Sc.scanL 5 4 []).cons _).cons _).cons _).cons _ = _
  rw [Sc.scan_end 5 4 Sc.skip_nil]
  rfl
set_option linter.unusedSimpArgs false in
theorem awake_v : Tryd.m10 = some ((true, ()), ()) := by
  have h1 := scan_v [97, 43, 43, 43, 98]
  have h2 : scanA [97, 43, 43, 43, 98] = .ok [⟨1, [97], 0, 0⟩, ⟨4, [43, 43], 0, 1⟩, ⟨4, [43], 0, 3⟩, ⟨1, [98], 0, 4⟩, Sc.fin 5] := by
    unfold scanA
    rw [if_neg (by decide), scan_plus]
  rw [h2] at h1
  have h3 := is_v [103, 111, 116, 111] (by decide)
  rw [wordsL_eq, show decide (([103, 111, 116, 111] : List UInt8) ∈ Sc.words) = true by rfl] at h3
  rw [Tryd.m10_eq]
  refine (ob h1).trans ?_
  refine Eq.trans (b := (Tryd.m16 [103, 111, 116, 111]).bind fun y7 => some ((y7.fst.fst, ()), ())) rfl ?_
  exact ob h3
set_option linter.unusedSimpArgs false in
theorem eqS_self : ∀ (k : Int), eqS (SV.v (Value.int .i64 k)) (SV.v (Value.int .i64 k)) = true := fun k => by simp [eqS]
set_option linter.unusedSimpArgs false in
theorem eqS_str : ∀ (s : List UInt8), eqS (SV.v (Value.string ⟨⟨s⟩⟩)) (SV.v (Value.string ⟨⟨s⟩⟩)) = true := fun k => by simp [eqS]
set_option linter.unusedSimpArgs false in
/-- Tokens that are the same are told to be. -/
theorem same_loop (a : List En.Dop.Tok) (ha : a.length ≤ 1000000) : ∀ (n k : Nat), k + n = a.length → Tryd.m13_4 a a (I a.length) (I k) = some ((true, ()), ())
  | 0, k, e => by
    have e : k = a.length := by omega
    subst e
    rw [Tryd.m13_4_eq]
    simp only [I_nlt, decide_false, Bool.false_eq_true, if_false]
  | n + 1, k, e => by
    have hk : k < a.length := by omega
    have ih := same_loop a ha n (k + 1) (by omega)
    rw [Tryd.m13_4_eq]
    rw [if_pos (decide_eq_true (I_lt hk)), if_pos (decide_eq_true ⟨I_nn _, I_lt hk⟩), if_pos (decide_eq_true ⟨I_nn _, I_lt hk⟩)]
    rw [if_neg, I_s, if_pos (inI (n := k + 1) (by omega))]
    · exact ih
    · simp only [List.drop_zero, List.take_succ_cons, List.take_zero, eqSs, eqS_self, eqS_str, Bool.and_true, Bool.true_and, Bool.not_true, Bool.false_eq_true, not_false_eq_true]
set_option linter.unusedSimpArgs false in
theorem same_v (a : List En.Dop.Tok) (ha : a.length ≤ 1000000) : Tryd.m13 a a = some ((true, ()), ()) := by
  rw [Tryd.m13_eq, if_neg (by simp)]
  exact same_loop a ha a.length 0 (Nat.zero_add _)
set_option linter.unusedSimpArgs false in
theorem scanA_len {s : List UInt8} {l : List En.Dop.Tok} (h : scanA s = .ok l) : l.length ≤ 32769 ∧ s.length ≤ 32768 := by
  unfold scanA at h
  split at h
  · cases h
  · have := (Sc.joined_len _ _ _ _ h).2
    omega
set_option linter.unusedSimpArgs false in
theorem scanR_len (s : List UInt8) : (scanR [] (scanA s)).1.1.length ≤ 1000000 := by
  cases h : scanA s with
  | err a e => exact Nat.zero_le _
  | ok l => have := (scanA_len h).1; show l.length ≤ _; omega
set_option linter.unusedSimpArgs false in
/-- LexScans. -/
theorem scans_law (s : List UInt8) : Tryd.m3 s = some ((true, ()), ()) := by
  have h13 := same_v _ (scanR_len s)
  have main : ((Tryd.m11 (s)).bind fun y4 =>
     (Tryd.m12 (s)).bind fun y5 =>
      (Tryd.m13 (y4.fst.fst) (y5.fst.fst)).bind fun y6 =>
       if (y6.fst.fst) = true then
        if (decide (y4.fst.snd.fst = y5.fst.snd.fst)) = true then
         if (decide (y4.fst.snd.snd.fst = y5.fst.snd.snd.fst)) = true then
          (Tryd.m10).bind fun y10 =>
           some ((y10.fst.fst, ()), ())
         else
          some ((false, ()), ())
        else
         some ((false, ()), ())
       else
        some ((false, ()), ())) = some ((true, ()), ()) := by
    refine (ob (scan_v s)).trans ?_
    refine (ob (scan_v2 s)).trans ?_
    refine (ob h13).trans ?_
    rw [if_pos rfl, if_pos (decide_eq_true rfl), if_pos (decide_eq_true rfl)]
    exact ob awake_v
  rw [Tryd.m3_eq]
  split
  · split
    · exact ob awake_v
    · exact main
  · exact main
set_option linter.unusedSimpArgs false in
theorem words_loop (s : List UInt8) (l : List (List UInt8)) (hl : l.length < 1000000) (hs : s.length ≤ 100) : ∀ (n k : Nat), k + n = l.length → Tryd.m4_7 s l l (I l.length) (I k) = some ((true, ()), ())
  | 0, k, e => by
    have e : k = l.length := by omega
    subst e
    rw [Tryd.m4_7_eq, if_neg (by simp)]
    refine (ob (is_v s (by omega))).trans ?_
    refine (ob (is_v2 s)).trans ?_
    rw [if_pos (beq_self_eq_true _)]
    exact ob awake_v
  | n + 1, k, e => by
    have hk : k < l.length := by omega
    have ih := words_loop s l hl hs n (k + 1) (by omega)
    rw [Tryd.m4_7_eq]
    simp only [I_lt hk, hk, I_nn, I_nat, I_s, I_in hk hl, and_self, decide_true, if_true, Bool.not_true, Bool.false_eq_true, if_false]
    exact ih
set_option linter.unusedSimpArgs false in
/-- LexWords. -/
theorem words_law (s : List UInt8) : Tryd.m4 s = some ((true, ()), ()) := by
  rw [Tryd.m4_eq]
  by_cases h : (100 : Int) < I s.length
  · rw [if_pos (decide_eq_true h)]
    exact ob awake_v
  · rw [if_neg (by rw [decide_eq_true_eq]; exact h)]
    refine (ob signs_v).trans ?_
    refine (ob signs_v2).trans ?_
    rw [if_neg (by simp)]
    exact words_loop s Sc.signs (by decide) (by simp only [I_eq] at h; omega) Sc.signs.length 0 (Nat.zero_add _)
end Go.Proofs.Law
