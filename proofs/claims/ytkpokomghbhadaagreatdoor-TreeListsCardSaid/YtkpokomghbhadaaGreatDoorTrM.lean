/-
 A tree's lists: what tree.List tells.
-/
import Derived.Test.YtkpokomghbhadaaGreatDoorAw
set_option maxRecDepth 100000
namespace Go.Proofs.TR
open Go Go.En Go.En.Dop
theorem parse_len (L : List Tok) : (parse L).1.nodes.length ≤ 8192 ∧ (parse L).1.types.length ≤ 256 := by
 unfold parse
 simp only
 split
 ·exact ⟨(whole.run (first L)).2.hN,(whole.run (first L)).2.hT⟩
 ·exact ⟨Nat.zero_le _,Nat.zero_le _⟩
theorem at17 (n : Int) (t : Tre) : Tryz.m21 t n = some ((atN t n,()),()) := by
 rw [Tryz.m21_eq]
 unfold atN
 by_cases h : n < 0
 ·rw [if_pos (decide_eq_true h),if_pos h]
 ·rw [if_neg (by simpa using h),if_neg h]
  by_cases h2 : ((t.nodes.length : Nat) : Int) ≤ n
  ·rw [if_pos (decide_eq_true h2),if_pos h2]
  ·rw [if_neg (fun hh => h2 (of_decide_eq_true hh)),if_neg h2,if_pos (decide_eq_true (show (0 : Int) ≤ n ∧ n < ((t.nodes.length : Nat) : Int) by omega))]
def listN (t : Tre) : Nat → Int → List Int
 | 0,_ => []
 | m + 1,n => if (atN t n).kind = 20 then (atN t n).a :: listN t m (atN t n).b else []
theorem list_loop (t : Tre) (ht : t.nodes.length ≤ 8192) : ∀ (m : Nat) (k : Nat) (n : Int) (out : List Int),k + m = t.nodes.length → out.length ≤ k → Tryz.m8_3 n out (I t.nodes.length) (I k) t = some ((out ++ listN t m n,()),())
 | 0,k,n,out,hk,ho => by
  rw [Tryz.m8_3_eq,if_neg (by simp only [I,decide_eq_true_eq]; omega)]
  simp [listN]
 | m + 1,k,n,out,hk,ho => by
  rw [Tryz.m8_3_eq,if_pos (decide_eq_true (by simp only [I]; omega))]
  refine (ob (at17 n t)).trans ?_
  unfold listN
  by_cases h : (atN t n).kind = 20
  ·rw [if_pos h]
   refine (if_neg (show ¬ (!decide ((atN t n).kind = 20)) = true by rw [decide_eq_true h]; decide)).trans ?_
   refine (if_pos (show (andC none (room 8 (out.length + [(atN t n).a].length))) = true by simp only [andC,room,List.length_singleton,decide_eq_true_eq]; omega)).trans ?_
   refine (if_pos (inR_of (by simp only [I]; omega) (by simp only [I]; omega))).trans ?_
   have := list_loop t ht m (k + 1) (atN t n).b (out ++ [(atN t n).a]) (by omega) (by simp only [List.length_append,List.length_singleton]; omega)
   rw [List.append_assoc] at this
   exact this
  ·rw [if_neg h]
   refine (if_pos (show (!decide ((atN t n).kind = 20)) = true by rw [decide_eq_false h]; rfl)).trans ?_
   rw [List.append_nil]
theorem list_v (t : Tre) (ht : t.nodes.length ≤ 8192) (n : Int) : Tryz.m8 t n = some ((listN t t.nodes.length n,()),()) := by
 rw [Tryz.m8_eq,show (0 : Int) = I 0 from rfl,list_loop t ht t.nodes.length 0 n [] (by omega) (Nat.zero_le _)]
 rfl
end Go.Proofs.TR
