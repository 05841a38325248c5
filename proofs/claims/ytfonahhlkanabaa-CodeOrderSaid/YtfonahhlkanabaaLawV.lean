/-
  Layer 7, plain: the law CodeOrder.
-/
import Derived.Test.YtfonahhlkanabaaLawU
import Derived.Test.YtfonahhlkanabaaLfB
set_option maxRecDepth 20000
set_option maxHeartbeats 800000
namespace Go.Proofs.Law
open Go Go.En Go.Proofs

theorem I_tmod (a b : Nat) : (I a).tmod (I b) = I (a % b) := by
  simp only [I_eq]
  rw [Int.tmod_eq_emod_of_nonneg (by omega)]
  omega
/-- A global with a name that is longer by one letter. -/
def renG (g : En.Dop.Glb) : En.Dop.Glb := ⟨g.name ++ [120], g.at_, g.size, g.init_⟩
theorem order_glob (u : En.Dop.Unt) (t1 : Int) (t2 : List Int) (t3 : Int) (hg : u.globals.length ≤ 10) (hn : ∀ g ∈ u.globals, g.name.length ≤ reachBytes) : ∀ (n k : Nat) (acc : List En.Dop.Glb), k + n = u.globals.length → acc.length ≤ k →
    Try.m5_6 t1 t2 t3 u.globals (I u.globals.length) (I k) u u.funcs acc u.top = Try.m5_6 t1 t2 t3 u.globals (I u.globals.length) (I u.globals.length) u u.funcs (acc ++ (u.globals.drop k).map renG) u.top
  | 0, k, acc, e, _ => by
    have e : k = u.globals.length := by omega
    subst e
    rw [List.drop_eq_nil_of_le (Nat.le_refl _)]
    simp only [List.map_nil, List.append_nil]
  | n + 1, k, acc, e, ha => by
    have hk : k < u.globals.length := by omega
    have ih := order_glob u t1 t2 t3 hg hn n (k + 1) (acc ++ [renG (u.globals.getD k Dop.d5)]) (by omega) (by simp only [List.length_append, List.length_cons, List.length_nil]; omega)
    have hm := hn _ (mem_getD Dop.d5 hk)
    have h1 : (u.globals.getD k Dop.d5).name.length + ((120 : UInt8) :: ([] : List UInt8)).length ≤ 9223372036854775807 := by
      simp only [List.length_cons, List.length_nil]; unfold reachBytes at hm; omega
    have h2 : ∀ y : En.Dop.Glb, room 40 (acc.length + [y].length) = true := fun y => room_s _ _ (by simp only [List.length_cons, List.length_nil]; omega)
    conv => lhs; rw [Try.m5_6_eq]
    simp only [I_lt hk, I_nn, I_nat, I_s, I_in hk (show u.globals.length < 1000000 by omega), h1, h2, andC, and_self, decide_true, if_true]
    refine ih.trans ?_
    rw [drop_get Dop.d5 hk, List.map_cons, List.append_assoc]
    rfl
/-- The rotated unit. -/
def rotU (u : En.Dop.Unt) (k : Nat) : En.Dop.Unt := ⟨u.funcs.drop k ++ u.funcs.take k, u.globals.map renG, u.top⟩
theorem rot_like (u : En.Dop.Unt) (k : Nat) : Like u (rotU u k) := by
  refine ⟨?_, ⟨fun g => g.name ++ [120], rfl⟩, rfl⟩
  have : (u.funcs.take k ++ u.funcs.drop k).Perm (u.funcs.drop k ++ u.funcs.take k) := List.perm_append_comm
  rwa [List.take_append_drop] at this
set_option linter.unusedSimpArgs false in
/-- THE LAW 'CodeOrder': true of all data. -/
theorem order_law (u : En.Dop.Unt) (b : Nat) (inp : List Int) (t3 : Int) (hb8 : b ≤ 255) (hb : ∀ x ∈ inp, 0 ≤ x ∧ x ≤ 255) (hn : ∀ g ∈ u.globals, g.name.length ≤ reachBytes) : Try.m5 u (I b) inp t3 = some ((true, ()), ()) := by
  obtain ⟨r, r1, r2⟩ := few u
  rw [Try.m5_eq, r1]
  cases r with
  | false => simp only [Option.bind, Bool.not_false, if_true, awake]
  | true =>
    obtain ⟨h1, h2⟩ := r2 rfl
    simp only [Option.bind, Bool.not_true, Bool.false_eq_true, if_false, awake]
    by_cases c1 : 200 < I inp.length
    · simp only [c1, decide_true, if_true]
    by_cases c3 : 5000 < t3
    · simp only [c1, c3, decide_true, decide_false, Bool.false_eq_true, if_false, if_true]
    simp only [c1, c3, decide_false, Bool.false_eq_true, if_false]
    have hgl := order_glob u (I b) inp t3 h2 hn u.globals.length 0 [] (by omega) (by simp)
    rw [I_0] at hgl
    rw [hgl, Try.m5_6_eq]
    obtain ⟨k, hk⟩ : ∃ k, k = b % (u.funcs.length + 1) := ⟨_, rfl⟩
    have hkl : k ≤ u.funcs.length := by have := Nat.mod_lt b (show u.funcs.length + 1 > 0 by omega); omega
    have e1 : inR (I b) = true := by rw [inR_iff]; simp only [I_eq]; omega
    have e2 : inR (I (u.funcs.length + 1)) = true := by rw [inR_iff]; simp only [I_eq]; omega
    have e3 : ¬ I (u.funcs.length + 1) = 0 := by simp only [I_eq]; omega
    have e4 : I k ≤ I u.funcs.length := by simp only [I_eq]; omega
    have e5 : (0 : Int) ≤ 0 ∧ (0 : Int) ≤ I k ∧ I k ≤ I u.funcs.length := ⟨by omega, I_nn _, e4⟩
    have e6 : ∀ n, n ≤ 6 → room 64 n = true := fun n hn => room_s _ _ (by omega)
    have e7 : (u.funcs.drop k).length ≤ 6 := by rw [List.length_drop]; omega
    have e8 : (u.funcs.drop k).length + (u.funcs.take k).length ≤ 6 := by rw [List.length_drop, List.length_take]; omega
    have e9 : ([] : List En.Dop.Fnc).length + (u.funcs.take k).length ≤ 6 := by rw [List.length_take]; simp only [List.length_nil]; omega
    have hL := rot_like u k
    have lv : (rotU u k).funcs.length < 1000000 := by rw [← hL.funcs.length_eq]; omega
    have lg : (rotU u k).globals.length < 1000000 := by simp only [rotU, List.length_map]; omega
    obtain ⟨q, hq, -⟩ := unit u (by omega) (by omega)
    obtain ⟨q', hq', -⟩ := unit (rotU u k) lv lg
    have hqq : q = q' := by
      have : Try.m11 u = some ((true, ()), ()) ↔ Try.m11 (rotU u k) = some ((true, ()), ()) := by rw [right_iff u (by omega) (by omega), right_iff _ lv lg, rightQ, rightQ, hL.right]
      rw [hq, hq'] at this
      cases q <;> cases q' <;> simp at this ⊢
    subst hqq
    obtain ⟨a, a1, a2, a3⟩ := run_like u (rotU u k) hL (by omega) (by omega) inp ⟨hb, by simp only [I_eq] at c1; omega⟩ t3 (by omega)
    have a4 := same_v a a3
    simp only [I_nlt, decide_false, Bool.false_eq_true, if_false, I_s, e1, e2, e3, I_tmod, ← hk, I_nn, e4, Int.le_refl, ne_eq, not_false_eq_true, I_nat, List.take_length, andC, e6 _ e7, and_self, decide_true, if_true, List.nil_append, List.drop_zero, Int.toNat_zero]
    by_cases c : (u.funcs.drop k).length = 0
    · have c' : u.funcs.drop k = [] := List.length_eq_zero_iff.1 c
      have hv : rotU u k = ⟨u.funcs.take k, u.globals.map renG, u.top⟩ := by unfold rotU; rw [c', List.nil_append]
      rw [hv] at hq' a2
      simp only [c, e6 _ e9, decide_true, if_true, hq, hq', a1, a2, a4, Option.bind, BEq.rfl, awake]
    · have hv : rotU u k = ⟨u.funcs.drop k ++ u.funcs.take k, u.globals.map renG, u.top⟩ := rfl
      rw [hv] at hq' a2
      simp only [c, e6 _ e8, decide_false, Bool.false_eq_true, if_false, if_true, hq, hq', a1, a2, a4, Option.bind, BEq.rfl, awake]
end Go.Proofs.Law
