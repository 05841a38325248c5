/-
  What is behind a blank: white space, or a comment, between two sources is as a blank between.
-/
import Derived.Test.YtcifaokahhbflaaDoorScC
namespace Go.Sc
open Go.En

set_option linter.unusedSimpArgs false in
theorem eol_app : ∀ (r w : List UInt8), (10 : UInt8) ∈ r → eol (r ++ w) = eol r ++ w
  | [], w, h => by cases h
  | c :: r, w, h => by
    simp only [List.cons_append, eol]
    split
    · rfl
    · rename_i hc
      rcases List.mem_cons.1 h with h | h
      · exact absurd h.symm hc
      · exact eol_app r w h
set_option linter.unusedSimpArgs false in
theorem eol_not : ∀ (r w : List UInt8), (10 : UInt8) ∉ r → eol (r ++ w) = eol w
  | [], w, h => rfl
  | c :: r, w, h => by
    simp only [List.mem_cons, not_or] at h
    simp only [List.cons_append, eol]
    rw [if_neg (fun e => h.1 e.symm)]
    exact eol_not r w h.2
set_option linter.unusedSimpArgs false in
theorem eol_none (r : List UInt8) (h : (10 : UInt8) ∉ r) : eol r = [] := by
  have := eol_not r [] h
  rw [List.append_nil] at this
  exact this
set_option linter.unusedSimpArgs false in
theorem eoc_app : ∀ (r x w : List UInt8), eoc r = some x → eoc (r ++ w) = some (x ++ w)
  | [], x, w, h => by simp [eoc] at h
  | c :: r, x, w, h => by
    simp only [eoc] at h
    simp only [List.cons_append, eoc]
    split at h
    · rename_i hc
      cases r with
      | nil => simp at hc
      | cons b r =>
        simp only [Option.some.injEq, List.tail_cons] at h
        subst h
        exact if_pos hc
    · rename_i hc
      cases r with
      | nil => simp [eoc] at h
      | cons b r =>
        exact (if_neg hc).trans (eoc_app (b :: r) x w h)
set_option linter.unusedSimpArgs false in
theorem eoc_not : ∀ (m w : List UInt8), (42 : UInt8) ∉ m → eoc (m ++ 42 :: 47 :: w) = some w
  | [], w, _ => by simp [eoc]
  | c :: m, w, h => by
    simp only [List.mem_cons, not_or] at h
    simp only [List.cons_append, eoc]
    rw [if_neg (fun e => h.1 e.1.symm)]
    exact eoc_not m w h.2
set_option linter.unusedSimpArgs false in
theorem head_app {r w : List UInt8} {d : UInt8} (h : r.head? = some d) : (r ++ w).head? = some d := by
  cases r with
  | nil => simp at h
  | cons b r => exact h
set_option linter.unusedSimpArgs false in
theorem tail_app {r w : List UInt8} {d : UInt8} (h : r.head? = some d) : (r ++ w).tail = r.tail ++ w := by
  cases r with
  | nil => simp at h
  | cons b r => rfl
set_option linter.unusedSimpArgs false in
theorem skip_app1 (a : List UInt8) : ∀ c r, skipL a = (c :: r, true) → ∀ z y, Bl z → skipL (a ++ z :: y) = (c :: (r ++ z :: y), true) := by
  refine skip_ind (P := fun a => ∀ c r, skipL a = (c :: r, true) → ∀ z y, Bl z → skipL (a ++ z :: y) = (c :: (r ++ z :: y), true)) ?_ ?_ ?_ ?_ ?_ ?_ a
  · intro c r h; rw [skip_nil] at h; cases h
  · intro c r h ih d t e z y hz; rw [skip_ws r h] at e; rw [List.cons_append, skip_ws _ h]; exact ih d t e z y hz
  · intro c r h h2 ih d t e z y hz
    rw [skip_line h h2] at e
    rw [List.cons_append, skip_line h ⟨h2.1, head_app h2.2⟩]
    by_cases hm : (10 : UInt8) ∈ r
    · rw [eol_app _ _ hm]; exact ih d t e z y hz
    · rw [eol_none r hm, skip_nil] at e; cases e
  · intro c r h h2 h3 d t e; rw [skip_bad h h2 h3] at e; cases e
  · intro c r x h h2 h3 ih d t e z y hz
    rw [skip_com h h2 h3] at e
    rw [List.cons_append, skip_com (x := x ++ z :: y) h ⟨h2.1, head_app h2.2⟩ (by rw [tail_app h2.2]; exact eoc_app _ _ _ h3)]
    exact ih d t e z y hz
  · intro c r h h2 h3 d t e z y hz
    rw [skip_not h h2 h3] at e
    cases e
    have hh : ∀ e, e = 47 ∨ e = 42 → ¬ (c = 47 ∧ r.head? = some e) → ¬ (c = 47 ∧ (r ++ z :: y).head? = some e) := by
      rintro e he hn ⟨e1, e2⟩
      cases r with
      | cons b r => exact hn ⟨e1, e2⟩
      | nil =>
        simp only [List.nil_append, List.head?_cons, Option.some.injEq] at e2
        subst e2
        rcases hz with rfl | rfl <;> simp at he
    exact skip_not h (hh 47 (.inl rfl) h2) (hh 42 (.inr rfl) h3)
set_option linter.unusedSimpArgs false in
/-- White space that goes on; or a comment that goes on to the end of its line. -/
theorem skip_app2 (a : List UInt8) : skipL a = ([], true) → (∀ z y, Bl z → skipL (a ++ z :: y) = skipL (z :: y)) ∨ ((∀ y, (10 : UInt8) ∉ y → skipL (a ++ 32 :: y) = ([], true)) ∧ ∀ y, skipL (a ++ 10 :: y) = skipL (10 :: y)) := by
  refine skip_ind (P := fun a => skipL a = ([], true) → (∀ z y, Bl z → skipL (a ++ z :: y) = skipL (z :: y)) ∨ ((∀ y, (10 : UInt8) ∉ y → skipL (a ++ 32 :: y) = ([], true)) ∧ ∀ y, skipL (a ++ 10 :: y) = skipL (10 :: y))) ?_ ?_ ?_ ?_ ?_ ?_ a
  · exact fun _ => .inl fun z y _ => rfl
  · intro c r h ih e
    rw [skip_ws r h] at e
    simp only [List.cons_append]
    rcases ih e with i | ⟨i, j⟩
    · exact .inl fun z y hz => by rw [skip_ws _ h]; exact i z y hz
    · exact .inr ⟨fun y hy => by rw [skip_ws _ h]; exact i y hy, fun y => by rw [skip_ws _ h]; exact j y⟩
  · intro c r h h2 ih e
    rw [skip_line h h2] at e
    have k : ∀ w, skipL (c :: r ++ w) = skipL (eol (r ++ w)) := fun w => by rw [List.cons_append, skip_line h ⟨h2.1, head_app h2.2⟩]
    by_cases hm : (10 : UInt8) ∈ r
    · rcases ih e with i | ⟨i, j⟩
      · exact .inl fun z y hz => by rw [k, eol_app _ _ hm]; exact i z y hz
      · exact .inr ⟨fun y hy => by rw [k, eol_app _ _ hm]; exact i y hy, fun y => by rw [k, eol_app _ _ hm]; exact j y⟩
    · refine .inr ⟨fun y hy => ?_, fun y => ?_⟩
      · rw [k, eol_not _ _ hm, eol_none _ (by simp only [List.mem_cons, not_or]; exact ⟨by decide, hy⟩), skip_nil]
      · rw [k, eol_not _ _ hm, eol, if_pos rfl]
  · intro c r h h2 h3 e; rw [skip_bad h h2 h3] at e; cases e
  · intro c r x h h2 h3 ih e
    rw [skip_com h h2 h3] at e
    have k : ∀ w, skipL (c :: r ++ w) = skipL (x ++ w) := fun w => by rw [List.cons_append, skip_com h ⟨h2.1, head_app h2.2⟩ (by rw [tail_app h2.2]; exact eoc_app _ _ _ h3)]
    rcases ih e with i | ⟨i, j⟩
    · exact .inl fun z y hz => by rw [k]; exact i z y hz
    · exact .inr ⟨fun y hy => by rw [k]; exact i y hy, fun y => by rw [k]; exact j y⟩
  · intro c r h h2 h3 e; rw [skip_not h h2 h3] at e; cases e
def Scn.pre (ts : List Dop.Tok) : Scn → Scn
  | .err a e => .err a e
  | .ok l => .ok (ts ++ l)
set_option linter.unusedSimpArgs false in
theorem pre_cons (t : Dop.Tok) (ts : List Dop.Tok) : ∀ m : Scn, (m.pre ts).cons t = m.pre (t :: ts)
  | .err _ _ => rfl
  | .ok _ => rfl
set_option linter.unusedSimpArgs false in
theorem pre_nil : ∀ m : Scn, m.pre [] = m
  | .err _ _ => rfl
  | .ok _ => rfl
/-- A source that may be, with a blank and more behind it. -/
def Shut (a : List UInt8) (cnt : Nat) (l : List Dop.Tok) : Prop := ∀ z y, Bl z → ∀ p, (scanL p cnt (a ++ z :: y)).strip = (scanL 0 (cnt + (l.length - 1)) (z :: y)).strip.pre (l.dropLast.map strip)
def Open (a : List UInt8) (cnt : Nat) (l : List Dop.Tok) : Prop := (∀ y, (10 : UInt8) ∉ y → ∀ p, (scanL p cnt (a ++ 32 :: y)).strip = .ok (l.map strip)) ∧ ∀ y p, (scanL p cnt (a ++ 10 :: y)).strip = (scanL 0 (cnt + (l.length - 1)) (10 :: y)).strip.pre (l.dropLast.map strip)
set_option linter.unusedSimpArgs false in
theorem scan_ne : ∀ s cnt a l, scanL a cnt s = .ok l → l ≠ [] := by
  intro s cnt a l h e
  subst e
  cases hk : skipL s with
  | mk x b =>
    cases b with
    | false => rw [scan_bad _ _ hk] at h; cases h
    | true =>
      cases x with
      | nil => rw [scan_end _ _ hk] at h; cases h
      | cons c r =>
        cases ht : tokL (c :: r) with
        | err e => rw [scan_err _ _ hk ht] at h; cases h
        | tok k t n =>
          by_cases hc : 8192 ≤ cnt
          · rw [scan_full _ hk ht hc] at h; cases h
          · rw [scan_tok _ hk ht (by omega)] at h; obtain ⟨_, _, h⟩ := cons_ok h; cases h
set_option linter.unusedSimpArgs false in
theorem scan_app : ∀ a cnt p l, scanL p cnt a = .ok l → Shut a cnt l ∨ Open a cnt l := by
  refine scan_ind (P := fun cnt a => ∀ p l, scanL p cnt a = .ok l → Shut a cnt l ∨ Open a cnt l) ?_ ?_ ?_ ?_ ?_
  · intro cnt s x h a l e; rw [scan_bad _ _ h] at e; cases e
  · intro cnt a h p l e
    rw [scan_end _ _ h] at e
    injection e with e
    subst e
    rcases skip_app2 a h with i | ⟨i, j⟩
    · refine .inl fun z y hz q => ?_
      rw [strip_skip (i z y hz) _ _ 0]
      exact (pre_nil _).symm
    · refine .inr ⟨fun y hy q => ?_, fun y q => ?_⟩
      · rw [scan_end _ _ (i y hy)]; rfl
      · rw [strip_skip (j y) _ _ 0]
        exact (pre_nil _).symm
  · intro cnt s c r e h h2 a l e'; rw [scan_err _ _ h h2] at e'; cases e'
  · intro cnt s c r k t n h h2 h3 a l e'; rw [scan_full _ h h2 h3] at e'; cases e'
  · intro cnt a c t x k n h h2 h3 ih p l e
    rw [scan_tok _ h h2 h3, drop_tok] at e
    obtain ⟨l', e1, e4⟩ := cons_ok e
    have hne := scan_ne _ _ _ _ e1
    have hl : l.length - 1 = 1 + (l'.length - 1) := by
      rw [e4]
      cases l' with
      | nil => exact absurd rfl hne
      | cons u m => simp only [List.length_cons]; omega
    have hd : l.dropLast.map strip = strip ⟨k, c :: t, (n : Int), ((p + (a.length - (c :: (t ++ x)).length) : Nat) : Int)⟩ :: l'.dropLast.map strip := by
      rw [e4]
      cases l' with
      | nil => exact absurd rfl hne
      | cons u m => rfl
    have step : ∀ z y, Bl z → ∀ q, (scanL q cnt (a ++ z :: y)).strip = (scanL 0 (cnt + 1) (x ++ z :: y)).strip.cons ⟨k, c :: t, (n : Int), 0⟩ := by
      intro z y hz q
      have k1 := skip_app1 a _ _ h z y hz
      have k2 : tokL (c :: (t ++ x ++ z :: y)) = .tok k (c :: t) n := by
        have hh := skip_same h
        -- the token is the same whatever is behind the blank
        rcases tok_ways h2 with ⟨g1, g2, g3, g4⟩ | ⟨g1, g2, g3, g4, g5⟩ | ⟨g1, g2, g3, g4, m, g5, g6⟩ | ⟨g1, g2, g3, g4, g5, g6⟩
        · have e := tw_more (s := c :: (t ++ x)) hz y
          simp only [tokL, g1, if_true] at h2 ⊢
          rw [← List.cons_append, e]
          exact h2
        · have e := tw_more (s := c :: (t ++ x)) hz y
          simp only [tokL, g1, g2, if_true, Bool.false_eq_true, if_false] at h2 ⊢
          rw [← List.cons_append, e]
          exact h2
        · subst g3
          have e : charL (39 :: (t ++ x ++ z :: y)) = charL (39 :: (t ++ x)) ∧ (39 :: (t ++ x ++ z :: y)).take m = (39 :: (t ++ x)).take m := by
            rcases char_is g5 with ⟨b, w, e1, a1, a2, a3, e2, e3⟩ | ⟨b, w, e1, e2, e3⟩
            · rw [e1]; subst e3
              exact ⟨(char_3 a1 a2 a3).trans (char_3 a1 a2 a3).symm, rfl⟩
            · rw [e1]; subst e3
              exact ⟨(char_4 e2).trans (char_4 e2).symm, rfl⟩
          simp only [tokL, g1, g2, if_true, Bool.false_eq_true, if_false]
          rw [e.1, g5]
          simp only
          rw [e.2, ← g6, g4]
        · have e : signL (c :: (t ++ x ++ z :: y)) = some (c :: t) := by
            unfold signL at g6 ⊢
            rw [List.find?_eq_some_iff_append] at g6 ⊢
            obtain ⟨_, us, bs, e1, e2⟩ := g6
            refine ⟨List.isPrefixOf_iff_prefix.2 ⟨x ++ z :: y, by simp⟩, us, bs, e1, fun b hb => ?_⟩
            have h7 := e2 b hb
            have hm : b ∈ signs := by rw [e1]; exact List.mem_append_left _ hb
            have hn := signs_ne b hm
            cases hp : b.isPrefixOf (c :: (t ++ x ++ z :: y)) with
            | false => rfl
            | true =>
              have hq := pre_cut (z := z) (y := y) b (c :: (t ++ x)) (by rcases hz with rfl | rfl; exact hn.2.1; exact hn.2.2.1) (List.isPrefixOf_iff_prefix.1 hp)
              rw [List.isPrefixOf_iff_prefix.2 hq] at h7
              simp at h7
          simp only [tokL, g1, g2, g3, Bool.false_eq_true, if_false]
          rw [e, g4, g5]
      rw [scan_tok _ k1 k2 h3, List.append_assoc, drop_tok, strip_cons, strip_at _ _ _ 0]
      rfl
    rcases ih (cnt + 1) _ l' e1 with i | ⟨i, j⟩
    · refine .inl fun z y hz q => ?_
      rw [step z y hz q, i z y hz 0, hl, hd, pre_cons, show cnt + (1 + (l'.length - 1)) = cnt + 1 + (l'.length - 1) by omega]
      rfl
    · refine .inr ⟨fun y hy q => ?_, fun y q => ?_⟩
      · rw [step 32 y (.inl rfl) q, i y hy 0, e4]; rfl
      · rw [step 10 y (.inr rfl) q, j y 0, hl, hd, pre_cons, show cnt + (1 + (l'.length - 1)) = cnt + 1 + (l'.length - 1) by omega]
        rfl
/-- What may stand between two sources. -/
def Between (w : List UInt8) : Prop := ∀ b, skipL (w ++ b) = skipL b
set_option linter.unusedSimpArgs false in
theorem between_ws {w : List UInt8} (h : ∀ c ∈ w, ws c = true) : Between w := by
  intro b
  induction w with
  | nil => rfl
  | cons c r ih =>
    rw [List.cons_append, skip_ws _ (h c List.mem_cons_self)]
    exact ih fun d hd => h d (List.mem_cons_of_mem _ hd)
set_option linter.unusedSimpArgs false in
theorem between_line {m : List UInt8} (h : (10 : UInt8) ∉ m) : Between (47 :: 47 :: m ++ [10]) := by
  intro b
  show skipL (47 :: (47 :: (m ++ [10]) ++ b)) = _
  rw [skip_line (by decide) ⟨rfl, rfl⟩]
  have e : eol (47 :: (m ++ [10]) ++ b) = 10 :: b := by
    rw [List.cons_append, List.append_assoc]
    show eol (47 :: (m ++ ([10] ++ b))) = _
    have h1 := eol_not (47 :: m) ([10] ++ b) (by simp only [List.mem_cons, not_or]; exact ⟨by decide, h⟩)
    rw [List.cons_append] at h1
    rw [h1]
    simp [eol]
  rw [e, skip_ws _ (by decide)]
set_option linter.unusedSimpArgs false in
theorem between_com {m : List UInt8} (h : (42 : UInt8) ∉ m) : Between (47 :: 42 :: m ++ [42, 47]) := by
  intro b
  show skipL (47 :: (42 :: (m ++ [42, 47]) ++ b)) = _
  rw [skip_com (x := b) (by decide) ⟨rfl, rfl⟩ (by show eoc (m ++ [42, 47] ++ b) = some b; rw [List.append_assoc]; exact eoc_not m b h)]
set_option linter.unusedSimpArgs false in
/-- SUCH A THING BETWEEN TWO SOURCES IS AS A BLANK BETWEEN. -/
theorem spaces {a : List UInt8} {l : List Dop.Tok} (hs : Shut a 0 l) (b : List UInt8) {w : List UInt8} (hw : Between w) : (scanL 0 0 (a ++ 32 :: b)).strip = (scanL 0 0 (a ++ 32 :: (w ++ b))).strip := by
  rw [hs 32 b (.inl rfl) 0, hs 32 (w ++ b) (.inl rfl) 0]
  have e : skipL (32 :: b) = skipL (32 :: (w ++ b)) := by rw [skip_ws _ (by decide), skip_ws _ (by decide), hw b]
  rw [strip_skip e _ _ 0]
set_option linter.unusedSimpArgs false in
theorem open_told {a : List UInt8} {l : List Dop.Tok} (ho : Open a 0 l) (hl : l.length ≤ 8192) (hne : l ≠ []) : ∃ m n, scanL 0 0 (a ++ [10, 120]) = .ok m ∧ scanL 0 0 (a ++ [32, 120]) = .ok n ∧ m.length = n.length + 1 := by
  have h1 := ho.1 [120] (by decide) 0
  have h2 := ho.2 [120] 0
  have hx : tokL [120] = .tok 1 [120] 0 := by
    have e1 : ([120] : List UInt8).takeWhile aln = [120] := by decide
    have e2 : ([120] : List UInt8) ∉ words := by decide
    simp only [tokL]
    rw [if_pos (by decide), e1, if_neg e2]
  have hk : skipL [10, 120] = ([120], true) := by
    rw [skip_ws _ (by decide)]
    exact skip_not (by decide) (by decide) (by decide)
  have hln : 1 ≤ l.length := by cases l with | nil => exact absurd rfl hne | cons _ _ => simp
  have h3 : scanL 0 (0 + (l.length - 1)) [10, 120] = .ok [⟨1, [120], 0, 1⟩, fin 2] := by
    rw [scan_tok (t := [120]) 0 hk hx (by omega)]
    have : skipL (([] : List UInt8).drop (([120] : List UInt8).length - 1)) = ([], true) := by rw [List.drop_nil, skip_nil]
    rw [scan_end _ _ this]
    rfl
  rw [h3] at h2
  cases hm : scanL 0 0 (a ++ [10, 120]) with
  | err q e => rw [hm] at h2; cases h2
  | ok m =>
    cases hn : scanL 0 0 (a ++ [32, 120]) with
    | err q e => rw [hn] at h1; cases h1
    | ok n =>
      rw [hm] at h2
      rw [hn] at h1
      refine ⟨m, n, rfl, rfl, ?_⟩
      simp only [Scn.strip, Scn.ok.injEq, Scn.pre] at h1 h2
      have e1 := congrArg List.length h1
      have e2 := congrArg List.length h2
      simp only [List.length_map, List.length_append, List.length_dropLast, List.length_cons, List.length_nil] at e1 e2
      omega
end Go.Sc
