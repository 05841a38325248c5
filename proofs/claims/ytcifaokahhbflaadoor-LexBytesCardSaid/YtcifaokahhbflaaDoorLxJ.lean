/-
  LexAgain and LexPlaces are true of every text.
-/
import Derived.Test.YtcifaokahhbflaaDoorLxI
import Derived.Test.YtcifaokahhbflaaDoorLfB
namespace Go.Proofs.Law
open Go Go.En Go.Proofs

set_option linter.unusedSimpArgs false in
theorem strip_mk (t : En.Dop.Tok) : Dop.Tok.mk t.kind t.text t.n 0 = Sc.strip t := rfl
/-- The rows once the places from k on are struck. -/
def struck (k : Nat) (l : List En.Dop.Tok) : List En.Dop.Tok := l.take k ++ (l.drop k).map Sc.strip
set_option linter.unusedSimpArgs false in
theorem struck_set {l : List En.Dop.Tok} {k : Nat} (hk : k < l.length) : struck (k + 1) (l.set k (Sc.strip (l.getD k Dop.d4))) = struck k l := by
  have hg : l.getD k Dop.d4 = l[k] := by simp [List.getD, hk]
  unfold struck
  rw [hg, List.set_eq_take_append_cons_drop, if_pos hk]
  have h1 : (l.take k).length = k := by rw [List.length_take]; omega
  rw [List.take_append, List.drop_append, h1, List.take_of_length_le (by omega), List.drop_eq_nil_of_le (by omega : (l.take k).length ≤ k + 1)]
  rw [show k + 1 - k = 1 by omega]
  simp only [List.take_succ_cons, List.take_zero, List.drop_succ_cons, List.drop_zero, List.nil_append, List.append_assoc]
  rw [List.drop_eq_getElem_cons hk]
  rfl
set_option linter.unusedSimpArgs false in
theorem struck_0 (l : List En.Dop.Tok) : struck 0 l = l.map Sc.strip := by simp [struck]
set_option linter.unusedSimpArgs false in
theorem struck_all (l : List En.Dop.Tok) : struck l.length l = l := by simp [struck]
set_option linter.unusedSimpArgs false in
theorem strike_loop5 : ∀ (j k : Nat) (l m : List En.Dop.Tok), k + j = l.length → m.length = l.length → l.length ≤ 1000000 → struck k l = struck k m → Tryd.m5_16 l m (I l.length) (I k) = some ((true, ()), ())
  | 0, k, l, m, e, hm, hl, hs => by
    have e : k = l.length := by omega
    subst e
    rw [Tryd.m5_16_eq, if_neg (by simp)]
    have : l = m := by
      rw [struck_all] at hs
      rw [← hm, struck_all] at hs
      exact hs
    subst this
    refine (ob (same_v l hl)).trans ?_
    rw [if_pos rfl]
    exact ob awake_v
  | j + 1, k, l, m, e, hm, hl, hs => by
    have hk : k < l.length := by omega
    have hkm : k < m.length := by omega
    have ih := strike_loop5 j (k + 1) (l.set k (Sc.strip (l.getD k Dop.d4))) (m.set k (Sc.strip (m.getD k Dop.d4))) (by rw [List.length_set]; omega) (by rw [List.length_set, List.length_set]; omega) (by rw [List.length_set]; omega) (by rw [struck_set hk, struck_set hkm]; exact hs)
    rw [List.length_set] at ih
    rw [Tryd.m5_16_eq]
    simp only [I_lt hk, hk, I_lt hkm, hkm, I_nn, I_nat, I_s, inI (n := k + 1) (by omega), and_self, decide_true, if_true, strip_mk]
    exact ih
set_option linter.unusedSimpArgs false in
theorem scanL_err : ∀ s cnt, ∀ a p e, Sc.scanL a cnt s = .err p e → e = 2 ∨ e = 3 ∨ e = 4 := by
  refine Sc.scan_ind (P := fun cnt s => ∀ a p e, Sc.scanL a cnt s = .err p e → e = 2 ∨ e = 3 ∨ e = 4) ?_ ?_ ?_ ?_ ?_
  · intro cnt s x h a p e h2; rw [Sc.scan_bad _ _ h] at h2; injection h2 with _ h2; omega
  · intro cnt s h a p e h2; rw [Sc.scan_end _ _ h] at h2; cases h2
  · intro cnt s c r e' h h2 a p e h3
    rw [Sc.scan_err _ _ h h2] at h3
    injection h3 with _ h3
    rcases tokL_err h2 with h4 | h4 <;> omega
  · intro cnt s c r k t n h h2 h3 a p e h4; rw [Sc.scan_full _ h h2 h3] at h4; injection h4 with _ h4; omega
  · intro cnt s c t x k n h h2 h3 ih a p e h4
    rw [Sc.scan_tok _ h h2 h3, Sc.drop_tok] at h4
    cases hm : Sc.scanL (a + (s.length - (c :: (t ++ x)).length) + (c :: t).length) (cnt + 1) x with
    | ok l => rw [hm] at h4; cases h4
    | err q e' =>
      rw [hm] at h4
      injection h4 with h5 h6
      subst h6
      exact ih (cnt + 1) _ _ _ hm
set_option linter.unusedSimpArgs false in
theorem scanA_err {s : List UInt8} {p : Nat} {e : Int} (h : scanA s = .err p e) : e = 2 ∨ e = 3 ∨ e = 4 := by
  unfold scanA at h
  split at h
  · injection h with _ h; omega
  · exact scanL_err _ _ _ _ _ h
set_option linter.unusedSimpArgs false in
theorem scanA_ok {s : List UInt8} {l : List En.Dop.Tok} (h : scanA s = .ok l) : Sc.scanL 0 0 s = .ok l := by
  unfold scanA at h
  split at h
  · cases h
  · exact h
set_option linter.unusedSimpArgs false in
theorem joined_take {l : List En.Dop.Tok} {k : Nat} (hk : k < l.length) : Sc.joined (l.take k) ++ ((l.getD k Dop.d4).text ++ [32]) = Sc.joined (l.take (k + 1)) := by
  have hg : l.getD k Dop.d4 = l[k] := by simp [List.getD, hk]
  have ht : l.take (k + 1) = l.take k ++ [l[k]] := by rw [List.take_add_one, List.getElem?_eq_getElem hk]; rfl
  rw [hg, ht]
  simp only [Sc.joined, List.flatMap_append, List.flatMap_cons, List.flatMap_nil, List.append_nil]
set_option linter.unusedSimpArgs false in
theorem joined_le (l : List En.Dop.Tok) (k : Nat) : (Sc.joined (l.take k)).length ≤ (Sc.joined l).length := by
  have h : Sc.joined l = Sc.joined (l.take k) ++ Sc.joined (l.drop k) := by
    unfold Sc.joined
    rw [← List.flatMap_append, List.take_append_drop]
  rw [h, List.length_append]
  exact Nat.le_add_right _ _
set_option linter.unusedSimpArgs false in
theorem again_end {l m : List En.Dop.Tok} (hl : l.length ≤ 1000000) (h : scanA (Sc.joined l) = .ok m) (hs : m.map Sc.strip = l.map Sc.strip) :
    ((Tryd.m11 (Sc.joined l)).bind fun y3 =>
    if (!decide (y3.fst.snd.snd.fst = (0 : Int))) = true then
     some ((false, ()), ())
    else
     if (!decide (I y3.fst.fst.length = I l.length)) = true then
      some ((false, ()), ())
     else
      Tryd.m5_16 (l) (y3.fst.fst) (I l.length) ((0 : Int))) = some ((true, ()), ()) := by
  have h1 := scan_v (Sc.joined l)
  rw [h] at h1
  refine (ob h1).trans ?_
  have hm : m.length = l.length := by simpa using congrArg List.length hs
  rw [if_neg (by simp [scanR]), if_neg (by simp [scanR, hm])]
  show Tryd.m5_16 l ([] ++ m) (I l.length) (I 0) = _
  rw [List.nil_append]
  exact strike_loop5 l.length 0 l m (Nat.zero_add _) hm hl (by rw [struck_0, struck_0, hs])
set_option linter.unusedSimpArgs false in
theorem again_loop {l m : List En.Dop.Tok} (hl : l.length ≤ 1000000) (hj : (Sc.joined l).length ≤ 1000000) (h : scanA (Sc.joined l) = .ok m) (hs : m.map Sc.strip = l.map Sc.strip) : ∀ (n k : Nat), k + n = l.length → Tryd.m5_8 (Sc.joined (l.take k)) (I l.length) (I k) l = some ((true, ()), ())
  | 0, k, e => by
    have e : k = l.length := by omega
    subst e
    rw [Tryd.m5_8_eq, if_neg (by simp), List.take_length]
    exact again_end hl h hs
  | n + 1, k, e => by
    have hk : k < l.length := by omega
    have ih := again_loop hl hj h hs n (k + 1) (by omega)
    have h1 := joined_le l (k + 1)
    rw [← joined_take hk] at h1 ih
    have h2 : (l.getD k Dop.d4).text.length + ([32] : List UInt8).length ≤ 9223372036854775807 := by
      simp only [List.length_append] at h1 ⊢
      omega
    have h3 : (Sc.joined (l.take k)).length + ((l.getD k Dop.d4).text ++ [32]).length ≤ 9223372036854775807 := by
      simp only [List.length_append] at h1 ⊢
      omega
    rw [Tryd.m5_8_eq]
    simp only [I_lt hk, hk, I_nn, I_nat, I_s, inI (n := k + 1) (by omega), and_self, decide_true, if_true, h2, h3]
    exact ih
set_option linter.unusedSimpArgs false in
/-- LexAgain. -/
theorem again_law (s : List UInt8) : Tryd.m5 s = some ((true, ()), ()) := by
  rw [Tryd.m5_eq]
  by_cases hs : (4000 : Int) < I s.length
  · rw [if_pos (decide_eq_true hs)]
    exact ob awake_v
  · rw [if_neg (by rw [decide_eq_true_eq]; exact hs)]
    have hs' : s.length ≤ 4000 := by simp only [I_eq] at hs; omega
    have h1 := scan_v s
    refine (ob h1).trans ?_
    cases h : scanA s with
    | err p e =>
      have he : e ≠ 0 := by rcases scanA_err h with h | h | h <;> omega
      rw [if_pos (by simp [scanR, he]), if_pos (by simp [scanR])]
      exact ob awake_v
    | ok l =>
      rw [if_neg (by simp [scanR])]
      have h2 := scanA_ok h
      have h3 := Sc.joined_len _ _ _ _ h2
      have h4 := Sc.again _ _ _ _ h2 0
      have hb : ¬ 32768 < (Sc.joined l).length := by omega
      cases hm : Sc.scanL 0 0 (Sc.joined l) with
      | err p e => rw [hm] at h4; cases h4
      | ok m =>
        rw [hm] at h4
        simp only [Sc.Scn.strip, Sc.Scn.ok.injEq] at h4
        have h5 : scanA (Sc.joined l) = .ok m := by unfold scanA; rw [if_neg hb, hm]
        show Tryd.m5_8 (Sc.joined (l.take 0)) (I l.length) (I 0) ([] ++ l) = _
        exact again_loop (by omega) (by omega) h5 h4 l.length 0 (Nat.zero_add _)
set_option linter.unusedSimpArgs false in
theorem pl_last {S : List UInt8} : ∀ {l : List En.Dop.Tok} {a : Nat}, Sc.Pl S a l → l.getD (l.length - 1) Dop.d4 = Sc.fin S.length
  | [], _, h => h.elim
  | [t], _, h => by
    rcases h with ⟨_, h, _⟩ | ⟨h, _⟩
    · exact h
    · exact absurd rfl h
  | t :: u :: r, _, h => by
    rcases h with ⟨h, _⟩ | ⟨_, _, _, _, _, _, p, _, _, _, _, h⟩
    · cases h
    · have := pl_last h
      simpa using this
set_option linter.unusedSimpArgs false in
theorem places_loop (s : List UInt8) (hs : s.length ≤ 4000) (l : List En.Dop.Tok) (hl : l.length ≤ 1000000) (hlast : l.getD (l.length - 1) Dop.d4 = Sc.fin s.length) : ∀ (r : List En.Dop.Tok) (k a : Nat), l.drop k = r → (r ≠ [] → Sc.Pl s a r) → a ≤ s.length → k ≤ l.length → l ≠ [] → Tryd.m6_8 s (I a) (I l.length) (I k) l = some ((true, ()), ())
  | [], k, a, h, _, _, hk, hne => by
    have : l.length ≤ k := List.drop_eq_nil_iff.1 h
    have e : k = l.length := by omega
    subst e
    have hp : 0 < l.length := List.length_pos_iff.2 hne
    have e1 : I l.length - 1 = I (l.length - 1) := by simp only [I_eq]; omega
    have h0 : (0 : Int) < I l.length := by simp only [I_eq]; omega
    have h3 : (Sc.fin s.length).at_ = I s.length := rfl
    rw [Tryd.m6_8_eq]
    simp only [I_nlt, decide_false, Bool.false_eq_true, if_false, h0, decide_true, if_true, e1, inI (n := l.length - 1) (by omega), I_nn, I_lt (a := l.length - 1) (b := l.length) (by omega), and_self, I_nat, show l.length - 1 < l.length by omega, hlast, h3]
    exact ob awake_v
  | t :: r, k, a, h, hp, ha, hk, hne => by
    have hlt : k < l.length := by
      apply Classical.byContradiction
      intro hn
      rw [List.drop_eq_nil_of_le (by omega)] at h
      cases h
    have hg : l.getD k Dop.d4 = t := by
      rw [List.drop_eq_getElem_cons hlt] at h
      simp only [List.cons.injEq] at h
      simp [List.getD, hlt, h.1]
    have hd : l.drop (k + 1) = r := by rw [← List.drop_drop, h]; rfl
    have hlen : r.length + 1 = l.length - k := by rw [← List.length_drop, h]; rfl
    have e1 : I l.length - 1 = I (l.length - 1) := by simp only [I_eq]; omega
    rw [Tryd.m6_8_eq]
    simp only [I_lt hlt, hlt, I_nn, I_nat, and_self, decide_true, if_true, hg, e1, inI (n := l.length - 1) (by omega), I_s, inI (n := k + 1) (by omega)]
    rcases hp (by simp) with ⟨h1, h2, h3⟩ | ⟨h1, h2, h3, h4, h5, h6, p, h7, h8, h9, h10, h11⟩
    · subst h2
      have ek : k = l.length - 1 := by rw [h1, List.length_nil] at hlen; omega
      have ih := places_loop s hs l hl hlast r (k + 1) s.length hd (fun h => absurd h1 h) (Nat.le_refl _) hlt hne
      have t1 : (Sc.fin s.length).at_ = I s.length := rfl
      have t2 : (Sc.fin s.length).text = [] := rfl
      have t3 : (Sc.fin s.length).kind = 0 := rfl
      have t4 : (Sc.fin s.length).n = 0 := rfl
      have t5 : I s.length + I ([] : List UInt8).length = I s.length := by simp [I_eq]
      have t6 : ¬ I s.length < I a := by simp only [I_eq]; omega
      have t7 : I k = I (l.length - 1) := by rw [← ek]
      have t8 : List.drop s.length (List.take s.length s) = [] := by rw [List.take_length, List.drop_length]
      have t9 : ¬ (4294967296 : Int) ≤ 0 := by decide
      simp only [t1, t2, t3, t4, t5, t6, t7, t8, t9, decide_false, decide_true, Bool.false_eq_true, if_false, inI (n := s.length) (by omega), Int.lt_irrefl, if_true, I_nn, Int.le_refl, and_self, I_nat, Bool.not_true, beq_self_eq_true]
      exact ih
    · have ih := places_loop s hs l hl hlast r (k + 1) (p + t.text.length) hd (fun _ => h11) h9 hlt hne
      have t6 : ¬ I p < I a := by simp only [I_eq]; omega
      have h7' : t.at_ = I p := h7
      have t5 : I p + I t.text.length = I (p + t.text.length) := I_add _ _
      have t7 : ¬ I s.length < I (p + t.text.length) := by simp only [I_eq]; omega
      have t8 : List.drop p (List.take (p + t.text.length) s) = t.text := by rw [List.drop_take, Nat.add_sub_cancel_left]; exact h10
      have t9 : ¬ t.kind = 0 := by omega
      have hr : 0 < r.length := List.length_pos_iff.2 h1
      have t10 : ¬ I k = I (l.length - 1) := by simp only [I_eq]; omega
      have t11 : ¬ t.n < 0 := by omega
      have t12 : ¬ (4294967296 : Int) ≤ t.n := by omega
      simp only [h7', t5, t6, t7, t8, t9, t10, t11, t12, h6, decide_false, decide_true, Bool.false_eq_true, if_false, inI (n := p + t.text.length) (by omega), if_true, I_nn, I_le (Nat.le_add_right p t.text.length), I_le h9, and_self, I_nat, Bool.not_true, beq_self_eq_true]
      exact ih
set_option linter.unusedSimpArgs false in
/-- LexPlaces. -/
theorem places_law (s : List UInt8) : Tryd.m6 s = some ((true, ()), ()) := by
  rw [Tryd.m6_eq]
  by_cases hs : (4000 : Int) < I s.length
  · rw [if_pos (decide_eq_true hs)]
    exact ob awake_v
  · rw [if_neg (by rw [decide_eq_true_eq]; exact hs)]
    have hs' : s.length ≤ 4000 := by simp only [I_eq] at hs; omega
    refine (ob (scan_v s)).trans ?_
    cases h : scanA s with
    | err p e =>
      have he : e ≠ 0 := by rcases scanA_err h with h | h | h <;> omega
      rw [if_pos (by simp [scanR, he])]
      exact ob awake_v
    | ok l =>
      rw [if_neg (by simp [scanR])]
      have h2 := scanA_ok h
      have h3 := Sc.joined_len _ _ _ _ h2
      have h4 := Sc.places s _ _ _ _ h2 rfl (Nat.zero_le _)
      show Tryd.m6_8 s (I 0) (I l.length) (I 0) ([] ++ l) = _
      exact places_loop s hs' l (by omega) (pl_last h4) l 0 0 rfl (fun _ => h4) (Nat.zero_le _) (Nat.zero_le _) h4.ne
end Go.Proofs.Law
