/-
  What is so of white space, of one token, and of all tokens.
-/
import Derived.Test.YtcifaokahhbflaaDoorScA
namespace Go.Sc
open Go.En

set_option linter.unusedSimpArgs false in
theorem eol_suf : ∀ s, ∃ p, s = p ++ eol s ∧ (10 : UInt8) ∉ p
  | [] => ⟨[], rfl, by simp⟩
  | c :: r => by
    unfold eol
    split
    · exact ⟨[], rfl, by simp⟩
    · rename_i h
      obtain ⟨p, h1, h2⟩ := eol_suf r
      exact ⟨c :: p, by rw [List.cons_append, ← h1], by simp only [List.mem_cons, not_or]; exact ⟨fun e => h e.symm, h2⟩⟩
set_option linter.unusedSimpArgs false in
theorem eoc_suf : ∀ s x, eoc s = some x → ∃ p, s = p ++ x
  | [], x, h => by simp [eoc] at h
  | c :: r, x, h => by
    unfold eoc at h
    split at h
    · simp only [Option.some.injEq] at h; subst h
      cases r with
      | nil => exact ⟨[c], rfl⟩
      | cons b r => exact ⟨[c, b], rfl⟩
    · obtain ⟨p, hp⟩ := eoc_suf r x h
      exact ⟨c :: p, by rw [List.cons_append, ← hp]⟩
set_option linter.unusedSimpArgs false in
theorem skip_nil : skipL [] = ([], true) := by rw [skipL]
set_option linter.unusedSimpArgs false in
theorem skip_ws {c : UInt8} (r : List UInt8) (h : ws c = true) : skipL (c :: r) = skipL r := by rw [skipL, if_pos h]
set_option linter.unusedSimpArgs false in
theorem skip_line {c : UInt8} {r : List UInt8} (h : ws c = false) (h2 : c = 47 ∧ r.head? = some 47) : skipL (c :: r) = skipL (eol r) := by rw [skipL, if_neg (by simp [h]), if_pos h2]
set_option linter.unusedSimpArgs false in
theorem skip_bad {c : UInt8} {r : List UInt8} (h : ws c = false) (h2 : c = 47 ∧ r.head? = some 42) (h3 : eoc r.tail = none) : skipL (c :: r) = (c :: r, false) := by
  rw [skipL, if_neg (by simp [h]), if_neg (by rw [h2.2]; simp), if_pos h2]
  split
  · rfl
  · rename_i x hx; rw [h3] at hx; cases hx
set_option linter.unusedSimpArgs false in
theorem skip_com {c : UInt8} {r x : List UInt8} (h : ws c = false) (h2 : c = 47 ∧ r.head? = some 42) (h3 : eoc r.tail = some x) : skipL (c :: r) = skipL x := by
  rw [skipL, if_neg (by simp [h]), if_neg (by rw [h2.2]; simp), if_pos h2]
  split
  · rename_i hx; rw [h3] at hx; cases hx
  · rename_i y hy; rw [h3] at hy; cases hy; rfl
set_option linter.unusedSimpArgs false in
theorem skip_not {c : UInt8} {r : List UInt8} (h : ws c = false) (h2 : ¬ (c = 47 ∧ r.head? = some 47)) (h3 : ¬ (c = 47 ∧ r.head? = some 42)) : skipL (c :: r) = (c :: r, true) := by
  rw [skipL, if_neg (by simp [h]), if_neg h2, if_neg h3]
set_option linter.unusedSimpArgs false in
/-- All ways in which white space goes on. -/
theorem skip_ind {P : List UInt8 → Prop} (h0 : P []) (h1 : ∀ c r, ws c = true → P r → P (c :: r)) (h2 : ∀ c r, ws c = false → c = 47 ∧ r.head? = some 47 → P (eol r) → P (c :: r))
    (h3 : ∀ c r, ws c = false → c = 47 ∧ r.head? = some 42 → eoc r.tail = none → P (c :: r)) (h4 : ∀ c r x, ws c = false → c = 47 ∧ r.head? = some 42 → eoc r.tail = some x → P x → P (c :: r))
    (h5 : ∀ c r, ws c = false → ¬ (c = 47 ∧ r.head? = some 47) → ¬ (c = 47 ∧ r.head? = some 42) → P (c :: r)) (s : List UInt8) : P s := by
  induction s using skipL.induct with
  | case1 => exact h0
  | case2 c r h ih => exact h1 c r h ih
  | case3 c r h h' ih => exact h2 c r (by simpa using h) h' ih
  | case4 c r h _ h' h'' => exact h3 c r (by simpa using h) h' h''
  | case5 c r h _ h' x h'' ih => exact h4 c r x (by simpa using h) h' h'' ih
  | case6 c r h h' h'' => exact h5 c r (by simpa using h) h' h''
set_option linter.unusedSimpArgs false in
theorem skip_suf (s : List UInt8) : ∃ p, s = p ++ (skipL s).1 := by
  refine skip_ind (P := fun s => ∃ p, s = p ++ (skipL s).1) ⟨[], by rw [skip_nil]; rfl⟩ ?_ ?_ ?_ ?_ ?_ s
  · rintro c r h ⟨p, hp⟩; exact ⟨c :: p, by rw [skip_ws r h, List.cons_append, ← hp]⟩
  · rintro c r h h2 ⟨p, hp⟩
    obtain ⟨q, hq, _⟩ := eol_suf r
    exact ⟨c :: (q ++ p), by rw [skip_line h h2, List.cons_append, List.append_assoc, ← hp, ← hq]⟩
  · intro c r h h2 h3; exact ⟨[], by rw [skip_bad h h2 h3]; rfl⟩
  · rintro c r x h h2 h3 ⟨p, hp⟩
    obtain ⟨q, hq⟩ := eoc_suf _ _ h3
    cases r with
    | nil => simp at h2
    | cons b r => exact ⟨c :: b :: (q ++ p), by rw [skip_com h h2 h3, List.cons_append, List.cons_append, List.append_assoc, ← hp]; simp only [List.tail_cons] at hq; rw [← hq]⟩
  · intro c r h h2 h3; exact ⟨[], by rw [skip_not h h2 h3]; rfl⟩
set_option linter.unusedSimpArgs false in
theorem skip_stop (s : List UInt8) : ∀ c r, skipL s = (c :: r, true) → ws c = false ∧ ¬ (c = 47 ∧ r.head? = some 47) ∧ ¬ (c = 47 ∧ r.head? = some 42) := by
  refine skip_ind (P := fun s => ∀ c r, skipL s = (c :: r, true) → ws c = false ∧ ¬ (c = 47 ∧ r.head? = some 47) ∧ ¬ (c = 47 ∧ r.head? = some 42)) ?_ ?_ ?_ ?_ ?_ ?_ s
  · intro c r h; rw [skip_nil] at h; cases h
  · intro c r h ih d t e; rw [skip_ws r h] at e; exact ih d t e
  · intro c r h h2 ih d t e; rw [skip_line h h2] at e; exact ih d t e
  · intro c r h h2 h3 d t e; rw [skip_bad h h2 h3] at e; cases e
  · intro c r x h h2 h3 ih d t e; rw [skip_com h h2 h3] at e; exact ih d t e
  · intro c r h h2 h3 d t e; rw [skip_not h h2 h3] at e; cases e; exact ⟨h, h2, h3⟩
set_option linter.unusedSimpArgs false in
theorem skip_same {s : List UInt8} {c : UInt8} {r : List UInt8} (h : skipL s = (c :: r, true)) : skipL (c :: r) = (c :: r, true) := by
  obtain ⟨h1, h2, h3⟩ := skip_stop s c r h
  exact skip_not h1 h2 h3
set_option linter.unusedSimpArgs false in
theorem digits_le (base : Nat) : ∀ (s : List UInt8) (n v : Nat), n ≤ 4294967295 → digits base n s = some v → v ≤ 4294967295
  | [], n, v, h, e => by simp only [digits, Option.some.injEq] at e; omega
  | c :: r, n, v, h, e => by
    simp only [digits] at e
    split at e
    · cases e
    · split at e
      · cases e
      · rename_i h3; exact digits_le base r _ v (by omega) e
set_option linter.unusedSimpArgs false in
theorem val_le {s : List UInt8} {v : Nat} (h : valL s = some v) : v ≤ 4294967295 := by
  unfold valL at h
  split at h
  · cases h
  · exact digits_le _ _ _ _ (by omega) h
set_option linter.unusedSimpArgs false in
theorem esc_le {c : UInt8} {v : Nat} (h : escB c = some v) : v ≤ 92 := by
  unfold escB at h
  repeat' split at h
  all_goals cases h
  all_goals decide
set_option linter.unusedSimpArgs false in
/-- How a byte between quotes stands. -/
theorem char_is {c : UInt8} {r : List UInt8} {v k : Nat} (h : charL (c :: r) = some (v, k)) :
    (∃ a x, r = a :: 39 :: x ∧ a ≠ 92 ∧ a ≠ 39 ∧ a ≠ 10 ∧ v = a.toNat ∧ k = 3) ∨ (∃ b x, r = 92 :: b :: 39 :: x ∧ escB b = some v ∧ k = 4) := by
  cases r with
  | nil => simp [charL] at h
  | cons a r =>
  cases r with
  | nil => simp [charL] at h
  | cons b r =>
  simp only [charL] at h
  split at h
  · rename_i ha
    split at h
    · rename_i hr
      cases r with
      | nil => simp at hr
      | cons d r =>
      simp only [List.head?_cons, Option.some.injEq] at hr
      cases he : escB b with
      | none => rw [he] at h; cases h
      | some w => rw [he] at h; simp only [Option.map_some, Option.some.injEq, Prod.mk.injEq] at h; exact .inr ⟨b, r, by rw [ha, hr], by rw [← h.1]; exact he, h.2.symm⟩
    · cases h
  · rename_i ha
    split at h
    · rename_i hb; simp only [Option.some.injEq, Prod.mk.injEq] at h; exact .inl ⟨a, r, by rw [hb.1], ha, hb.2.1, hb.2.2, h.1.symm, h.2.symm⟩
    · cases h
set_option linter.unusedSimpArgs false in
theorem char_3 {c a : UInt8} {x : List UInt8} (h1 : a ≠ 92) (h2 : a ≠ 39) (h3 : a ≠ 10) : charL (c :: a :: 39 :: x) = some (a.toNat, 3) := by
  simp only [charL]; rw [if_neg h1, if_pos ⟨trivial, h2, h3⟩]
set_option linter.unusedSimpArgs false in
theorem char_4 {c b : UInt8} {x : List UInt8} {v : Nat} (h : escB b = some v) : charL (c :: 92 :: b :: 39 :: x) = some (v, 4) := by
  simp only [charL, List.head?_cons, if_true, h, Option.map_some]
set_option linter.unusedSimpArgs false in
theorem signs_ne : ∀ x ∈ signs, x ≠ [] ∧ (32 : UInt8) ∉ x ∧ (10 : UInt8) ∉ x ∧ (x.head? = some 47 → x.tail.head? ≠ some 47 ∧ x.tail.head? ≠ some 42) := by decide
set_option linter.unusedSimpArgs false in
theorem sign_is {s x : List UInt8} (h : signL s = some x) : x ∈ signs ∧ ∃ y, s = x ++ y := by
  refine ⟨List.mem_of_find?_eq_some h, ?_⟩
  have h1 := List.find?_some h
  obtain ⟨y, hy⟩ := List.isPrefixOf_iff_prefix.1 h1
  exact ⟨y, hy.symm⟩
set_option linter.unusedSimpArgs false in
/-- Ways to a token. -/
theorem tok_ways {c : UInt8} {r : List UInt8} {k : Int} {t : List UInt8} {n : Nat} (h : tokL (c :: r) = .tok k t n) :
    (letB c = true ∧ t = (c :: r).takeWhile aln ∧ (k = 1 ∨ k = 2) ∧ n = 0) ∨ (letB c = false ∧ digB c = true ∧ t = (c :: r).takeWhile aln ∧ k = 3 ∧ valL t = some n) ∨
    (letB c = false ∧ digB c = false ∧ c = 39 ∧ k = 3 ∧ ∃ m, charL (c :: r) = some (n, m) ∧ t = (c :: r).take m) ∨ (letB c = false ∧ digB c = false ∧ c ≠ 39 ∧ k = 4 ∧ n = 0 ∧ signL (c :: r) = some t) := by
  simp only [tokL] at h
  split at h
  · rename_i h1; injection h with a b d; refine .inl ⟨h1, b.symm, ?_, d.symm⟩; rw [← a]; split <;> simp
  · rename_i h1
    split at h
    · rename_i h2
      split at h
      · cases h
      · rename_i v hv; injection h with a b d; refine .inr (.inl ⟨by simpa using h1, h2, b.symm, a.symm, ?_⟩); rw [← b, ← d]; exact hv
    · rename_i h2
      split at h
      · rename_i h3
        split at h
        · cases h
        · rename_i v m hv; injection h with a b d; refine .inr (.inr (.inl ⟨by simpa using h1, by simpa using h2, h3, a.symm, m, ?_, b.symm⟩)); rw [← d]; exact hv
      · rename_i h3
        split at h
        · cases h
        · rename_i x hx; injection h with a b d; refine .inr (.inr (.inr ⟨by simpa using h1, by simpa using h2, h3, a.symm, d.symm, ?_⟩)); rw [← b]; exact hx
set_option linter.unusedSimpArgs false in
theorem aln_of_let {c : UInt8} (h : letB c = true) : aln c = true := by simp [aln, h]
set_option linter.unusedSimpArgs false in
theorem aln_of_dig {c : UInt8} (h : digB c = true) : aln c = true := by simp [aln, h]
set_option linter.unusedSimpArgs false in
/-- A token: it begins the text; is not empty. -/
theorem tok_pre {c : UInt8} {r : List UInt8} {k : Int} {t : List UInt8} {n : Nat} (h : tokL (c :: r) = .tok k t n) : ∃ t' x, t = c :: t' ∧ r = t' ++ x ∧ 1 ≤ k ∧ k ≤ 4 ∧ n ≤ 4294967295 := by
  have tw : aln c = true → ∃ t' x, (c :: r).takeWhile aln = c :: t' ∧ r = t' ++ x := fun ha => ⟨r.takeWhile aln, r.dropWhile aln, by rw [List.takeWhile_cons, ha]; rfl, (List.takeWhile_append_dropWhile).symm⟩
  rcases tok_ways h with ⟨h1, h2, h3, h4⟩ | ⟨h1, h2, h3, h4, h5⟩ | ⟨h1, h2, h3, h4, m, h5, h6⟩ | ⟨h1, h2, h3, h4, h5, h6⟩
  · obtain ⟨t', x, e1, e2⟩ := tw (aln_of_let h1)
    exact ⟨t', x, h2.trans e1, e2, by omega, by omega, by omega⟩
  · obtain ⟨t', x, e1, e2⟩ := tw (aln_of_dig h2)
    exact ⟨t', x, h3.trans e1, e2, by omega, by omega, val_le h5⟩
  · rcases char_is h5 with ⟨a, x, e1, _, _, _, e2, e3⟩ | ⟨b, x, e1, e2, e3⟩
    · subst e3; subst e1
      have := a.toNat_lt
      exact ⟨[a, 39], x, h6, rfl, by omega, by omega, by omega⟩
    · subst e3; subst e1
      have := esc_le e2
      exact ⟨[92, b, 39], x, h6, rfl, by omega, by omega, by omega⟩
  · obtain ⟨e1, y, e2⟩ := sign_is h6
    cases t with
    | nil => exact absurd rfl (signs_ne _ e1).1
    | cons d t' =>
      simp only [List.cons_append, List.cons.injEq] at e2
      exact ⟨t', y, by rw [e2.1], e2.2, by omega, by omega, by omega⟩
set_option linter.unusedSimpArgs false in
theorem pre_cut {z : UInt8} {y : List UInt8} : ∀ (a t : List UInt8), z ∉ a → a <+: t ++ z :: y → a <+: t
  | [], t, _, _ => List.nil_prefix
  | b :: a, [], h, e => by
    simp only [List.nil_append, List.cons_prefix_cons] at e
    exact absurd (by rw [e.1]; exact List.mem_cons_self) h
  | b :: a, c :: t, h, e => by
    simp only [List.cons_append, List.cons_prefix_cons] at e ⊢
    exact ⟨e.1, pre_cut a t (fun m => h (List.mem_cons_of_mem _ m)) e.2⟩
/-- A blank, or the end of a line. -/
def Bl (z : UInt8) : Prop := z = 32 ∨ z = 10
set_option linter.unusedSimpArgs false in
theorem Bl.ws {z : UInt8} (h : Bl z) : ws z = true := by rcases h with rfl | rfl <;> decide
set_option linter.unusedSimpArgs false in
theorem Bl.aln {z : UInt8} (h : Bl z) : aln z = false := by rcases h with rfl | rfl <;> decide
set_option linter.unusedSimpArgs false in
theorem tw_all {p : UInt8 → Bool} {a : UInt8} : ∀ {l : List UInt8}, a ∈ l.takeWhile p → p a = true
  | [], h => by simp at h
  | b :: l, h => by
    rw [List.takeWhile_cons] at h
    split at h
    · rename_i hb
      rcases List.mem_cons.1 h with rfl | h
      · exact hb
      · exact tw_all h
    · simp at h
set_option linter.unusedSimpArgs false in
theorem tw_blank {t x : List UInt8} {z : UInt8} (hz : Bl z) (y : List UInt8) (h : (t ++ x).takeWhile aln = t) : (t ++ z :: y).takeWhile aln = t := by
  have ha : ∀ a ∈ t, aln a = true := fun a m => by
    rw [← h] at m
    exact tw_all m
  rw [List.takeWhile_append_of_pos ha, List.takeWhile_cons, hz.aln]
  simp
set_option linter.unusedSimpArgs false in
theorem tw_more {z : UInt8} (hz : Bl z) (y : List UInt8) : ∀ {s : List UInt8}, (s ++ z :: y).takeWhile aln = s.takeWhile aln
  | [] => by rw [List.nil_append, List.takeWhile_cons, hz.aln]; simp
  | c :: r => by
    rw [List.cons_append, List.takeWhile_cons, List.takeWhile_cons, tw_more hz y]
set_option linter.unusedSimpArgs false in
/-- What is behind a blank turns no token. -/
theorem tok_blank {c : UInt8} {t x : List UInt8} {k : Int} {n : Nat} (h : tokL (c :: (t ++ x)) = .tok k (c :: t) n) {z : UInt8} (hz : Bl z) (y : List UInt8) : tokL (c :: (t ++ z :: y)) = .tok k (c :: t) n := by
  have tw : (c :: (t ++ x)).takeWhile aln = c :: t → (c :: (t ++ z :: y)).takeWhile aln = c :: t := fun e => tw_blank (t := c :: t) hz y e
  rcases tok_ways h with ⟨h1, h2, h3, h4⟩ | ⟨h1, h2, h3, h4, h5⟩ | ⟨h1, h2, h3, h4, m, h5, h6⟩ | ⟨h1, h2, h3, h4, h5, h6⟩
  · have e := tw h2.symm
    simp only [tokL, h1, if_true] at h ⊢
    rw [e]
    rw [← h2] at h
    exact h
  · have e := tw h3.symm
    simp only [tokL, h1, h2, if_true, Bool.false_eq_true, if_false]
    rw [e, h5, h4]
  · simp only [tokL, h1, h2, h3, if_true, Bool.false_eq_true, if_false]
    subst h3
    rcases char_is h5 with ⟨a, w, e1, a1, a2, a3, e2, e3⟩ | ⟨b, w, e1, e2, e3⟩
    · subst e3
      rw [e1] at h6
      simp only [List.take_succ_cons, List.take_zero, List.cons.injEq, true_and] at h6
      subst h6
      show (match charL (39 :: a :: 39 :: z :: y) with | none => Res.err 2 | some (v, k) => .tok 3 ((39 :: a :: 39 :: z :: y).take k) v) = _
      rw [char_3 a1 a2 a3, e2, h4]
      rfl
    · subst e3
      rw [e1] at h6
      simp only [List.take_succ_cons, List.take_zero, List.cons.injEq, true_and] at h6
      subst h6
      show (match charL (39 :: 92 :: b :: 39 :: z :: y) with | none => Res.err 2 | some (v, k) => .tok 3 ((39 :: 92 :: b :: 39 :: z :: y).take k) v) = _
      rw [char_4 e2, h4]
      rfl
  · simp only [tokL, h1, h2, h3, Bool.false_eq_true, if_false]
    have e : signL (c :: (t ++ z :: y)) = some (c :: t) := by
      unfold signL at h6 ⊢
      rw [List.find?_eq_some_iff_append] at h6 ⊢
      obtain ⟨_, us, bs, e1, e2⟩ := h6
      refine ⟨?_, us, bs, e1, fun a ha => ?_⟩
      · exact List.isPrefixOf_iff_prefix.2 ⟨z :: y, rfl⟩
      · have h7 := e2 a ha
        have hm : a ∈ signs := by rw [e1]; exact List.mem_append_left _ ha
        have hn := signs_ne a hm
        cases hp : a.isPrefixOf (c :: (t ++ z :: y)) with
        | false => rfl
        | true =>
          have hq := pre_cut (z := z) (y := y) a (c :: t) (by rcases hz with rfl | rfl; exact hn.2.1; exact hn.2.2.1) (List.isPrefixOf_iff_prefix.1 hp)
          obtain ⟨u, hu⟩ := hq
          have : a.isPrefixOf (c :: (t ++ x)) = true := List.isPrefixOf_iff_prefix.2 ⟨u ++ x, by rw [← List.append_assoc, hu]; rfl⟩
          rw [this] at h7
          simp at h7
    rw [e, h4, h5]
set_option linter.unusedSimpArgs false in
theorem skip_blank {c : UInt8} {t x : List UInt8} {k : Int} {n : Nat} (h0 : skipL (c :: (t ++ x)) = (c :: (t ++ x), true)) (h : tokL (c :: (t ++ x)) = .tok k (c :: t) n) {z : UInt8} (hz : Bl z) (y : List UInt8) : skipL (c :: (t ++ z :: y)) = (c :: (t ++ z :: y), true) := by
  obtain ⟨a1, a2, a3⟩ := skip_stop _ _ _ h0
  have hh : ∀ d, d = 47 ∨ d = 42 → ¬ (c = 47 ∧ (t ++ x).head? = some d) → ¬ (c = 47 ∧ (t ++ z :: y).head? = some d) := by
    rintro d hd hn ⟨e1, e2⟩
    cases t with
    | cons b t => simp only [List.cons_append, List.head?_cons] at e2 hn; exact hn ⟨e1, e2⟩
    | nil =>
      simp only [List.nil_append, List.head?_cons, Option.some.injEq] at e2
      subst e2
      rcases hz with rfl | rfl <;> simp at hd
  exact skip_not a1 (hh 47 (.inl rfl) a2) (hh 42 (.inr rfl) a3)
end Go.Sc
