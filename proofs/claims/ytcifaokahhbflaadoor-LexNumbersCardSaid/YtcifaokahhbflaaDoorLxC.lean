/-
  Layer 2, plain: whether a text is a word.
-/
import Derived.Test.YtcifaokahhbflaaDoorLxB
namespace Go.Proofs.Law
open Go Go.En Go.Proofs

/-- All words. -/
noncomputable def wordsL : List (List UInt8) := match Tryd.m31 with
  | some x => x.1.1
  | none => []
theorem words_v : Tryd.m31 = some ((wordsL, ()), ()) := by
  have h := Tryd.m31_eq
  unfold wordsL
  rw [h]
theorem words_no : ∀ a ∈ wordsL, (32 : UInt8) ∉ a ∧ a ≠ [] := by
  have h := Tryd.m31_eq
  unfold wordsL
  rw [h]
  decide
theorem words_len : wordsL.length < 1000000 := by
  have h := Tryd.m31_eq
  unfold wordsL
  rw [h]
  decide
theorem is_v2 (w : List UInt8) : Tryd.m17 w = some ((decide (w ∈ wordsL), ()), ()) := by
  have h := is_loop w wordsL words_len wordsL.length 0 (Nat.zero_add _)
  have e0 : I 0 = 0 := rfl
  rw [e0, List.drop_zero] at h
  rw [Tryd.m17_eq, words_v]
  simp only [Option.bind]
  exact h
theorem blank_iff (w : List UInt8) : Lib.contains w [32] = true ↔ (32 : UInt8) ∈ w := by
  unfold Lib.contains
  rw [decide_eq_true_eq, index_iff]
  constructor
  · rintro ⟨pre, suf, h⟩; rw [h]; simp
  · intro h
    obtain ⟨pre, suf, h'⟩ := List.append_of_mem h
    exact ⟨pre, suf, by rw [h']; simp⟩
theorem is_fin (w C : List UInt8) (c2 : (32 : UInt8) ∉ w) (hC : C = rowW wordsL) (ho : okS C = true) : (if okS C = true then some ((Lib.contains C ((32 : UInt8) :: ([] : List UInt8) ++ w ++ (32 : UInt8) :: ([] : List UInt8)), ()), ()) else none) = some ((decide (w ∈ wordsL), ()), ()) := by
  rw [if_pos ho, hC]
  have h := rowW_iff w c2 wordsL fun a ha => (words_no a ha).1
  have e : Lib.contains (rowW wordsL) ((32 : UInt8) :: ([] : List UInt8) ++ w ++ (32 : UInt8) :: ([] : List UInt8)) = decide (w ∈ wordsL) := by
    unfold Lib.contains
    rw [decide_eq_decide, index_iff, ← h]
    rfl
  rw [e]
theorem is_v (w : List UInt8) (hl : w.length ≤ 100000) : Tryd.m16 w = some ((decide (w ∈ wordsL), ()), ()) := by
  have h0 : okS w = true := decide_eq_true (by omega)
  have k1 : ((32 : UInt8) :: ([] : List UInt8)).length + w.length ≤ 9223372036854775807 := by simp only [List.length_cons, List.length_nil]; omega
  have k2 : ((32 : UInt8) :: ([] : List UInt8) ++ w).length + ((32 : UInt8) :: ([] : List UInt8)).length ≤ 9223372036854775807 := by simp only [List.length_cons, List.length_nil, List.length_append]; omega
  rw [Tryd.m16_eq]
  by_cases c1 : w = []
  · have : w ∉ wordsL := fun h => (words_no w h).2 c1
    simp only [c1, decide_true, Bool.not_true, Bool.false_eq_true, if_false]
    rw [c1] at this
    simp only [this, decide_false]
  · by_cases c2 : (32 : UInt8) ∈ w
    · have : w ∉ wordsL := fun h => (words_no w h).1 c2
      simp only [c1, h0, (blank_iff w).2 c2, this, decide_false, Bool.not_false, Bool.not_true, Bool.false_eq_true, if_false, if_true]
    · have c3 : Lib.contains w [32] = false := by
        cases hx : Lib.contains w [32] with
        | false => rfl
        | true => exact absurd ((blank_iff w).1 hx) c2
      simp only [c1, h0, c3, k1, k2, decide_true, decide_false, Bool.not_false, if_true]
      exact is_fin w _ c2 (by unfold wordsL; rw [Tryd.m31_eq]; kernel_rfl) (by kernel_rfl)
end Go.Proofs.Law
