/-
  Layer 2, plain: signs and words.
-/
import Derived.Test.YtcifaokahhbflaaDoorLfA
namespace Go.Proofs.Law
open Go Go.En Go.Proofs

theorem I_eq (n : Nat) : I n = (n : Int) := rfl
theorem I_lt {a b : Nat} (h : a < b) : I a < I b := by simp only [I_eq]; omega
theorem I_nlt (a : Nat) : ¬ I a < I a := by simp only [I_eq]; omega
theorem I_nn (a : Nat) : (0 : Int) ≤ I a := by simp only [I_eq]; omega
theorem I_nat (a : Nat) : (I a).toNat = a := Int.toNat_natCast a
theorem I_s (a : Nat) : I a + 1 = I (a + 1) := by simp only [I_eq]; omega
theorem I_in {a b : Nat} (h : a < b) (hb : b < 1000000) : inR (I (a + 1)) = true := by rw [inR_iff]; simp only [I_eq]; omega
/-- The signs of both are one list. -/
theorem signs_same : Tryd.m14 = Tryd.m15 := by rw [Tryd.m14_eq, Tryd.m15_eq]; kernel_rfl
theorem is_loop (w : List UInt8) (l : List (List UInt8)) (hl : l.length < 1000000) : ∀ (n k : Nat), k + n = l.length → Tryd.m17_3 w l (I k) = some ((decide (w ∈ l.drop k), ()), ())
  | 0, k, e => by
    have e : k = l.length := by omega
    subst e
    rw [Tryd.m17_3_eq, List.drop_eq_nil_of_le (Nat.le_refl _)]
    simp only [I_nlt, decide_false, Bool.false_eq_true, if_false, List.not_mem_nil]
  | n + 1, k, e => by
    have hk : k < l.length := by omega
    have ih := is_loop w l hl n (k + 1) (by omega)
    have hd : l.drop k = l.getD k [] :: l.drop (k + 1) := by rw [List.drop_eq_getElem_cons hk]; simp [List.getD, hk]
    rw [Tryd.m17_3_eq, hd]
    simp only [I_lt hk, hk, I_nn, I_nat, I_s, I_in hk hl, and_self, decide_true, if_true]
    by_cases c : l.getD k [] = w
    · simp only [c, decide_true, if_true, List.mem_cons, true_or]
    · have c' : ¬ w = l.getD k [] := fun h => c h.symm
      simp only [c, c', decide_false, Bool.false_eq_true, if_false, List.mem_cons, false_or]
      exact ih
end Go.Proofs.Law
