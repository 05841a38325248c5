/-
  All tokens: where they are counts for nothing; joined with blanks they are scanned as the same; where they stand.
-/
import Derived.Test.YtcifaokahhbflaaDoorScB
namespace Go.Sc
open Go.En

def fin (p : Nat) : Dop.Tok := ⟨0, [], 0, ((p : Nat) : Int)⟩
theorem scan_bad {s : List UInt8} (a cnt : Nat) {x : List UInt8} (h : skipL s = (x, false)) : scanL a cnt s = .err (a + (s.length - x.length)) 2 := by
  rw [scanL, if_pos (by rw [h]), h]
theorem scan_end {s : List UInt8} (a cnt : Nat) (h : skipL s = ([], true)) : scanL a cnt s = .ok [fin (a + s.length)] := by
  rw [scanL, if_neg (by rw [h]; simp)]
  split
  · rfl
  · rename_i h'; rw [h] at h'; cases h'
theorem scan_err {s : List UInt8} (a cnt : Nat) {c : UInt8} {r : List UInt8} {e : Int} (h : skipL s = (c :: r, true)) (ht : tokL (c :: r) = .err e) : scanL a cnt s = .err (a + (s.length - (c :: r).length)) e := by
  rw [scanL, if_neg (by rw [h]; simp)]
  split
  · rename_i h'; rw [h] at h'; cases h'
  · rename_i c' r' h'; rw [h] at h'; cases h'; rw [ht]
theorem scan_full {s : List UInt8} (a : Nat) {cnt : Nat} {c : UInt8} {r : List UInt8} {k : Int} {t : List UInt8} {n : Nat} (h : skipL s = (c :: r, true)) (ht : tokL (c :: r) = .tok k t n) (hc : 8192 ≤ cnt) : scanL a cnt s = .err (a + (s.length - (c :: r).length)) 4 := by
  rw [scanL, if_neg (by rw [h]; simp)]
  split
  · rename_i h'; rw [h] at h'; cases h'
  · rename_i c' r' h'; rw [h] at h'; cases h'; rw [ht]; simp only [if_pos hc]
theorem scan_tok {s : List UInt8} (a : Nat) {cnt : Nat} {c : UInt8} {r : List UInt8} {k : Int} {t : List UInt8} {n : Nat} (h : skipL s = (c :: r, true)) (ht : tokL (c :: r) = .tok k t n) (hc : cnt < 8192) :
    scanL a cnt s = (scanL (a + (s.length - (c :: r).length) + t.length) (cnt + 1) (r.drop (t.length - 1))).cons ⟨k, t, (n : Int), ((a + (s.length - (c :: r).length) : Nat) : Int)⟩ := by
  rw [scanL, if_neg (by rw [h]; simp)]
  split
  · rename_i h'; rw [h] at h'; cases h'
  · rename_i c' r' h'; rw [h] at h'; cases h'; rw [ht]; simp only [if_neg (Nat.not_le_of_lt hc)]
/-- All ways in which a scan goes on. -/
theorem scan_ind {P : Nat → List UInt8 → Prop} (h1 : ∀ cnt s x, skipL s = (x, false) → P cnt s) (h2 : ∀ cnt s, skipL s = ([], true) → P cnt s) (h3 : ∀ cnt s c r e, skipL s = (c :: r, true) → tokL (c :: r) = .err e → P cnt s)
    (h4 : ∀ cnt s c r k t n, skipL s = (c :: r, true) → tokL (c :: r) = .tok k t n → 8192 ≤ cnt → P cnt s)
    (h5 : ∀ cnt s c t x k n, skipL s = (c :: (t ++ x), true) → tokL (c :: (t ++ x)) = .tok k (c :: t) n → cnt < 8192 → (∀ cnt', P cnt' x) → P cnt s) : ∀ s cnt, P cnt s := by
  have main : ∀ m s, s.length < m → ∀ cnt, P cnt s := by
    intro m
    induction m with
    | zero => intro s h; omega
    | succ m ih =>
      intro s hs cnt
      have hl := skipL_le s
      cases hk : skipL s with
      | mk x b =>
        rw [hk] at hl
        cases b with
        | false => exact h1 cnt s x hk
        | true =>
          cases x with
          | nil => exact h2 cnt s hk
          | cons c r =>
            cases ht : tokL (c :: r) with
            | err e => exact h3 cnt s c r e hk ht
            | tok k t n =>
              by_cases hc : 8192 ≤ cnt
              · exact h4 cnt s c r k t n hk ht hc
              · obtain ⟨t', x, e1, e2, _, _, _⟩ := tok_pre ht
                subst e1; subst e2
                refine h5 cnt s c t' x k n hk ht (by omega) fun cnt' => ih x ?_ cnt'
                simp only [List.length_cons, List.length_append] at hl
                omega
  exact fun s cnt => main (s.length + 1) s (Nat.lt_succ_self _) cnt
theorem drop_tok (c : UInt8) (t x : List UInt8) : (t ++ x).drop ((c :: t).length - 1) = x := by simp
def Scn.len : Scn → Nat
  | .err _ _ => 0
  | .ok l => l.length
def strip (t : Dop.Tok) : Dop.Tok := ⟨t.kind, t.text, t.n, 0⟩
def Scn.strip : Scn → Scn
  | .err _ e => .err 0 e
  | .ok l => .ok (l.map Sc.strip)
theorem strip_cons (t : Dop.Tok) : ∀ m : Scn, (m.cons t).strip = m.strip.cons (strip t)
  | .err _ _ => rfl
  | .ok _ => rfl
theorem cons_ok {t : Dop.Tok} {m : Scn} {l : List Dop.Tok} (h : m.cons t = .ok l) : ∃ l', m = .ok l' ∧ l = t :: l' := by
  cases m with
  | err a e => cases h
  | ok l' => injection h with h; exact ⟨l', rfl, h.symm⟩
/-- Where it is counts for nothing. -/
theorem strip_at : ∀ s cnt a a', (scanL a cnt s).strip = (scanL a' cnt s).strip := by
  refine scan_ind (P := fun cnt s => ∀ a a', (scanL a cnt s).strip = (scanL a' cnt s).strip) ?_ ?_ ?_ ?_ ?_
  · intro cnt s x h a a'; rw [scan_bad _ _ h, scan_bad _ _ h]; rfl
  · intro cnt s h a a'; rw [scan_end _ _ h, scan_end _ _ h]; rfl
  · intro cnt s c r e h h2 a a'; rw [scan_err _ _ h h2, scan_err _ _ h h2]; rfl
  · intro cnt s c r k t n h h2 h3 a a'; rw [scan_full _ h h2 h3, scan_full _ h h2 h3]; rfl
  · intro cnt s c t x k n h h2 h3 ih a a'
    rw [scan_tok _ h h2 h3, scan_tok _ h h2 h3, strip_cons, strip_cons, drop_tok, ih (cnt + 1) _ (a' + (s.length - (c :: (t ++ x)).length) + (c :: t).length)]
    rfl
theorem skip_one (s : List UInt8) : s = [] ∨ s ≠ [] := by cases s <;> simp
/-- White space ahead counts for nothing. -/
theorem strip_skip {s s' : List UInt8} (h : skipL s = skipL s') (cnt a a' : Nat) : (scanL a cnt s).strip = (scanL a' cnt s').strip := by
  cases hk : skipL s with
  | mk x b =>
    have hk' : skipL s' = (x, b) := h ▸ hk
    cases b with
    | false => rw [scan_bad _ _ hk, scan_bad _ _ hk']; rfl
    | true =>
      cases x with
      | nil => rw [scan_end _ _ hk, scan_end _ _ hk']; rfl
      | cons c r =>
        cases ht : tokL (c :: r) with
        | err e => rw [scan_err _ _ hk ht, scan_err _ _ hk' ht]; rfl
        | tok k t n =>
          by_cases hc : 8192 ≤ cnt
          · rw [scan_full _ hk ht hc, scan_full _ hk' ht hc]; rfl
          · rw [scan_tok _ hk ht (by omega), scan_tok _ hk' ht (by omega), strip_cons, strip_cons, strip_at _ _ _ (a' + (s'.length - (c :: r).length) + t.length)]
            rfl
/-- The texts, with a blank behind each one. -/
def joined (l : List Dop.Tok) : List UInt8 := l.flatMap fun t => t.text ++ [32]
theorem joined_cons (t : Dop.Tok) (l : List Dop.Tok) : joined (t :: l) = t.text ++ 32 :: joined l := by simp [joined]
/-- THE TEXTS WITH BLANKS BETWEEN ARE SCANNED AS THE SAME. -/
theorem again : ∀ s cnt a l, scanL a cnt s = .ok l → ∀ a', (scanL a' cnt (joined l)).strip = .ok (l.map strip) := by
  refine scan_ind (P := fun cnt s => ∀ a l, scanL a cnt s = .ok l → ∀ a', (scanL a' cnt (joined l)).strip = .ok (l.map strip)) ?_ ?_ ?_ ?_ ?_
  · intro cnt s x h a l e; rw [scan_bad _ _ h] at e; cases e
  · intro cnt s h a l e a'
    rw [scan_end _ _ h] at e
    injection e with e
    subst e
    have hk : skipL (joined [fin (a + s.length)]) = ([], true) := by
      show skipL [32] = ([], true)
      rw [skip_ws _ (by decide), skip_nil]
    rw [scan_end _ _ hk]
    rfl
  · intro cnt s c r e h h2 a l e'; rw [scan_err _ _ h h2] at e'; cases e'
  · intro cnt s c r k t n h h2 h3 a l e'; rw [scan_full _ h h2 h3] at e'; cases e'
  · intro cnt s c t x k n h h2 h3 ih a l e a'
    rw [scan_tok _ h h2 h3, drop_tok] at e
    obtain ⟨l', e1, e2⟩ := cons_ok e
    have e3 := ih (cnt + 1) _ l' e1
    subst e2
    rw [joined_cons]
    have hz : Bl 32 := .inl rfl
    have k1 := skip_blank (skip_same h) h2 hz (joined l')
    have k2 := tok_blank h2 hz (joined l')
    show (scanL a' cnt (c :: (t ++ 32 :: joined l'))).strip = _
    rw [scan_tok _ k1 k2 h3, drop_tok, strip_cons, strip_skip (s' := joined l') (skip_ws _ (by decide)) _ _ 0, e3 0]
    rfl
theorem joined_len : ∀ s cnt a l, scanL a cnt s = .ok l → (joined l).length ≤ 2 * s.length + 1 ∧ l.length ≤ s.length + 1 := by
  refine scan_ind (P := fun cnt s => ∀ a l, scanL a cnt s = .ok l → (joined l).length ≤ 2 * s.length + 1 ∧ l.length ≤ s.length + 1) ?_ ?_ ?_ ?_ ?_
  · intro cnt s x h a l e; rw [scan_bad _ _ h] at e; cases e
  · intro cnt s h a l e
    rw [scan_end _ _ h] at e
    injection e with e
    subst e
    exact ⟨by show 1 ≤ _; omega, by show 1 ≤ _; omega⟩
  · intro cnt s c r e h h2 a l e'; rw [scan_err _ _ h h2] at e'; cases e'
  · intro cnt s c r k t n h h2 h3 a l e'; rw [scan_full _ h h2 h3] at e'; cases e'
  · intro cnt s c t x k n h h2 h3 ih a l e
    rw [scan_tok _ h h2 h3, drop_tok] at e
    obtain ⟨l', e1, e2⟩ := cons_ok e
    have e3 := ih (cnt + 1) _ l' e1
    have hl := skipL_le s
    rw [h] at hl
    subst e2
    rw [joined_cons]
    simp only [List.length_cons, List.length_append] at hl e3 ⊢
    omega
/-- Where tokens stand. -/
def Pl (S : List UInt8) : Nat → List Dop.Tok → Prop
  | _, [] => False
  | at_, t :: r => (r = [] ∧ t = fin S.length ∧ at_ ≤ S.length) ∨ (r ≠ [] ∧ 1 ≤ t.kind ∧ t.kind ≤ 4 ∧ 0 ≤ t.n ∧ t.n < 4294967296 ∧ t.text ≠ [] ∧ ∃ p : Nat, t.at_ = (p : Int) ∧ at_ ≤ p ∧ p + t.text.length ≤ S.length ∧ (S.drop p).take t.text.length = t.text ∧ Pl S (p + t.text.length) r)
theorem Pl.ne {S : List UInt8} {a : Nat} {l : List Dop.Tok} (h : Pl S a l) : l ≠ [] := by
  rintro rfl; exact h
theorem places (S : List UInt8) : ∀ s cnt a l, scanL a cnt s = .ok l → S.drop a = s → a ≤ S.length → Pl S a l := by
  refine scan_ind (P := fun cnt s => ∀ a l, scanL a cnt s = .ok l → S.drop a = s → a ≤ S.length → Pl S a l) ?_ ?_ ?_ ?_ ?_
  · intro cnt s x h a l e; rw [scan_bad _ _ h] at e; cases e
  · intro cnt s h a l e e2 e3
    rw [scan_end _ _ h] at e
    injection e with e
    subst e
    refine .inl ⟨rfl, ?_, e3⟩
    have : s.length = S.length - a := by rw [← e2, List.length_drop]
    rw [this, show a + (S.length - a) = S.length by omega]
  · intro cnt s c r e h h2 a l e'; rw [scan_err _ _ h h2] at e'; cases e'
  · intro cnt s c r k t n h h2 h3 a l e'; rw [scan_full _ h h2 h3] at e'; cases e'
  · intro cnt s c t x k n h h2 h3 ih a l e e2 e3
    rw [scan_tok _ h h2 h3, drop_tok] at e
    obtain ⟨l', e1, e4⟩ := cons_ok e
    obtain ⟨p, hp⟩ := skip_suf s
    rw [h] at hp
    have hs : s.length - (c :: (t ++ x)).length = p.length := by rw [hp]; simp
    rw [hs] at e1 e4
    have hd : S.drop (a + p.length) = c :: t ++ x := by rw [← List.drop_drop, e2, hp]; simp
    have hd2 : S.drop (a + p.length + (c :: t).length) = x := by rw [← List.drop_drop, hd, List.drop_left]
    have hle : a + p.length + (c :: t).length ≤ S.length := by
      have := congrArg List.length hd
      rw [List.length_drop, List.length_append] at this
      have h1 : 0 < (c :: t).length := by simp
      omega
    obtain ⟨t', x', g1, g2, g3, g4, g5⟩ := tok_pre h2
    have hr := ih (cnt + 1) _ l' e1 hd2 hle
    subst e4
    exact .inr ⟨hr.ne, g3, g4, by show (0 : Int) ≤ n; omega, by show (n : Int) < _; omega, by simp, a + p.length, rfl, by omega, hle, by show (S.drop (a + p.length)).take (c :: t).length = c :: t; rw [hd, List.take_left], hr⟩
end Go.Sc
