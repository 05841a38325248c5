/-
  Layer 2, plain: a word within a row of words.
-/
import Derived.Test.YtcifaokahhbflaaDoorLxA
namespace Go.Proofs.Law
open Go Go.En Go.Proofs

theorem index_iff (sub : List UInt8) : ∀ s : List UInt8, 0 ≤ Lib.index s sub ↔ ∃ pre suf, s = pre ++ (sub ++ suf)
  | [] => by
    unfold Lib.index
    cases sub with
    | nil => exact ⟨fun _ => ⟨[], [], rfl⟩, fun _ => by simp⟩
    | cons a r => exact ⟨fun h => by simp at h, fun ⟨pre, suf, h⟩ => by simp at h⟩
  | b :: l => by
    have ih := index_iff sub l
    unfold Lib.index
    by_cases c : sub.isPrefixOf (b :: l) = true
    · rw [if_pos c]
      obtain ⟨t, ht⟩ := List.isPrefixOf_iff_prefix.1 c
      exact ⟨fun _ => ⟨[], t, by simpa using ht.symm⟩, fun _ => Int.le_refl _⟩
    · rw [if_neg c]
      have hno : ∀ pre suf, b :: l = pre ++ (sub ++ suf) → ∃ pre', l = pre' ++ (sub ++ suf) := fun pre suf h => by
        cases pre with
        | nil => exact absurd (List.isPrefixOf_iff_prefix.2 ⟨suf, by simpa using h.symm⟩) c
        | cons x r => simp only [List.cons_append, List.cons.injEq] at h; exact ⟨r, h.2⟩
      by_cases d : Lib.index l sub = -1
      · rw [if_pos (by simpa using d)]
        refine ⟨fun h => by omega, fun ⟨pre, suf, h⟩ => ?_⟩
        obtain ⟨pre', h'⟩ := hno pre suf h
        have := ih.2 ⟨pre', suf, h'⟩
        omega
      · rw [if_neg (by simpa using d)]
        constructor
        · intro h
          by_cases e : 0 ≤ Lib.index l sub
          · obtain ⟨pre, suf, h'⟩ := ih.1 e
            exact ⟨b :: pre, suf, by rw [h']; rfl⟩
          · exact ⟨b :: l, [], by omega⟩
        · rintro ⟨pre, suf, h⟩
          obtain ⟨pre', h'⟩ := hno pre suf h
          have := ih.2 ⟨pre', suf, h'⟩
          omega
theorem cut_eq : ∀ (a w x y : List UInt8), (32 : UInt8) ∉ a → (32 : UInt8) ∉ w → a ++ 32 :: x = w ++ 32 :: y → a = w
  | [], [], _, _, _, _, _ => rfl
  | [], b :: w, x, y, _, h2, h => by
    simp only [List.nil_append, List.cons_append, List.cons.injEq] at h
    exact absurd (by rw [h.1]; exact List.mem_cons_self) h2
  | b :: a, [], x, y, h1, _, h => by
    simp only [List.nil_append, List.cons_append, List.cons.injEq] at h
    exact absurd (by rw [← h.1]; exact List.mem_cons_self) h1
  | b :: a, c :: w, x, y, h1, h2, h => by
    simp only [List.cons_append, List.cons.injEq] at h
    rw [h.1, cut_eq a w x y (fun m => h1 (List.mem_cons_of_mem _ m)) (fun m => h2 (List.mem_cons_of_mem _ m)) h.2]
/-- Words with a blank ahead and behind. -/
def rowW (l : List (List UInt8)) : List UInt8 := 32 :: l.flatMap fun a => a ++ [32]
theorem rowW_cons (a : List UInt8) (r : List (List UInt8)) : rowW (a :: r) = 32 :: (a ++ rowW r) := by simp [rowW]
theorem rowW_iff (w : List UInt8) (hw : (32 : UInt8) ∉ w) : ∀ (l : List (List UInt8)), (∀ a ∈ l, (32 : UInt8) ∉ a) → ((∃ pre suf, rowW l = pre ++ ((32 :: w ++ [32]) ++ suf)) ↔ w ∈ l)
  | [], _ => by
    refine ⟨fun ⟨pre, suf, h⟩ => ?_, fun h => by cases h⟩
    have := congrArg List.length h
    simp [rowW] at this
    omega
  | a :: r, hl => by
    have ha := hl a List.mem_cons_self
    have ih := rowW_iff w hw r (fun x hx => hl x (List.mem_cons_of_mem _ hx))
    rw [rowW_cons, List.mem_cons]
    constructor
    · rintro ⟨pre, suf, h⟩
      cases pre with
      | nil =>
        simp only [List.nil_append, List.cons_append, List.cons.injEq, true_and, List.append_assoc] at h
        exact .inl (cut_eq a w _ _ ha hw h).symm
      | cons x pre =>
        simp only [List.cons_append, List.cons.injEq] at h
        rcases List.append_eq_append_iff.1 h.2 with ⟨q, h1, h2⟩ | ⟨q, h1, h2⟩
        · exact .inr (ih.1 ⟨q, suf, by simpa using h2⟩)
        · cases q with
          | nil => exact .inr (ih.1 ⟨[], suf, by simpa using h2.symm⟩)
          | cons z q =>
            simp only [List.cons_append, List.cons.injEq] at h2
            exact absurd (by rw [h1, ← h2.1]; simp) ha
    · rintro (h | h)
      · subst h
        exact ⟨[], (rowW r).drop 1, by simp [rowW]⟩
      · obtain ⟨pre, suf, h'⟩ := ih.2 h
        exact ⟨32 :: (a ++ pre), suf, by rw [h']; simp⟩
end Go.Proofs.Law
