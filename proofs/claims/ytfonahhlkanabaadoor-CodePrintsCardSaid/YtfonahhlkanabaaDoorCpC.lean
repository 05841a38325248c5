/-
  The law of a function's text, plain: functions are the same when they are equal; a text is 'printL'; a clone shares nothing; so the law holds.
-/
import Derived.Test.YtfonahhlkanabaaDoorCpB
import Derived.Test.YtfonahhlkanabaaDoorLfB
import Derived.Lib.ItoaLen
set_option maxRecDepth 20000
set_option linter.unusedSimpArgs false
set_option linter.unusedVariables false
namespace Go.Proofs.Law
open Go Go.Lib Go.En Go.Proofs

theorem wrap_s {n : Nat} (h : n < 1000000) : IntKind.i64.wrap (I n + 1) = I (n + 1) := by
  rw [I_s, I_eq]
  have e : ((n + 1 : Nat) : Int) % 18446744073709551616 = ((n + 1 : Nat) : Int) := by omega
  show (if (true && decide (((n + 1 : Nat) : Int) % 18446744073709551616 ≥ 9223372036854775808)) = true then _ else ((n + 1 : Nat) : Int) % 18446744073709551616) = _
  rw [e, if_neg]
  simp only [Bool.true_and, decide_eq_true_eq]
  omega
/-- What is small. -/
def Sm (f : En.Dop.Fnc) : Prop := f.name.length ≤ 50 ∧ f.code.length ≤ 60 ∧ ∀ i ∈ f.code, i.text.length ≤ 50
theorem small_loop' (l : List En.Dop.Ins) (hl : l.length < 1000000) : ∀ (n k : Nat), k + n = l.length → ∃ r, Tryd.m4_4 l (I l.length) (I k) = some ((r, ()), ()) ∧ (r = true → ∀ i ∈ l.drop k, i.text.length ≤ 50)
  | 0, k, h => by
    have e : k = l.length := by omega
    subst e
    rw [Tryd.m4_4_eq]
    simp only [I_nlt, decide_false, Bool.false_eq_true, if_false]
    exact ⟨_, rfl, fun _ i hi => by simp at hi⟩
  | n + 1, k, h => by
    have hk : k < l.length := by omega
    obtain ⟨r, k1, k2⟩ := small_loop' l hl n (k + 1) (by omega)
    rw [Tryd.m4_4_eq]
    simp only [I_lt hk, I_nn, I_nat, I_s, I_in hk hl, and_self, decide_true, if_true, k1]
    split
    · exact ⟨_, rfl, fun h => (by cases h)⟩
    · rename_i hc
      refine ⟨r, rfl, fun hr i hi => ?_⟩
      rw [drop_get En.Dop.d3 hk] at hi
      rcases List.mem_cons.1 hi with rfl | hi
      · simp only [decide_eq_true_eq, I_eq] at hc; omega
      · exact k2 hr i hi
theorem small' (f : En.Dop.Fnc) : ∃ r, Tryd.m4 f = some ((r, ()), ()) ∧ (r = true → Sm f) := by
  rw [Tryd.m4_eq]
  split
  · exact ⟨_, rfl, fun h => (by cases h)⟩
  split
  · exact ⟨_, rfl, fun h => (by cases h)⟩
  rename_i h1 h
  simp only [decide_eq_true_eq, I_eq] at h h1
  obtain ⟨r, hr, hr2⟩ := small_loop' f.code (by omega) f.code.length 0 (by omega)
  have hr' : Tryd.m4_4 f.code (I f.code.length) 0 = some ((r, ()), ()) := hr
  rw [hr']
  have hS : r = true → Sm f := fun e => ⟨by omega, by omega, fun i hi => hr2 e i hi⟩
  repeat' split
  all_goals first | exact ⟨_, rfl, hS⟩ | exact ⟨_, rfl, fun h => (by cases h)⟩
/-- Are instructions equal? -/
theorem eqI (i j : En.Dop.Ins) : eqSs (List.take (15 : Nat) (List.drop (0 : Nat) (SV.v (Value.int IntKind.i64 i.kind) :: SV.v (Value.int IntKind.i64 i.op) :: SV.v (Value.int IntKind.i64 i.dst) :: SV.v (Value.int IntKind.i64 i.a) :: SV.v (Value.int IntKind.i64 i.b) :: SV.v (Value.int IntKind.i64 i.n) :: SV.v (Value.string (ByteArray.mk (Array.mk i.text))) :: SV.v (Value.int IntKind.i64 i.args0) :: SV.v (Value.int IntKind.i64 i.args1) :: SV.v (Value.int IntKind.i64 i.args2) :: SV.v (Value.int IntKind.i64 i.args3) :: SV.v (Value.int IntKind.i64 i.args4) :: SV.v (Value.int IntKind.i64 i.args5) :: SV.v (Value.int IntKind.i64 i.to_) :: SV.v (Value.int IntKind.i64 i.else_) :: @List.nil SV))) (List.take (15 : Nat) (List.drop (0 : Nat) (SV.v (Value.int IntKind.i64 j.kind) :: SV.v (Value.int IntKind.i64 j.op) :: SV.v (Value.int IntKind.i64 j.dst) :: SV.v (Value.int IntKind.i64 j.a) :: SV.v (Value.int IntKind.i64 j.b) :: SV.v (Value.int IntKind.i64 j.n) :: SV.v (Value.string (ByteArray.mk (Array.mk j.text))) :: SV.v (Value.int IntKind.i64 j.args0) :: SV.v (Value.int IntKind.i64 j.args1) :: SV.v (Value.int IntKind.i64 j.args2) :: SV.v (Value.int IntKind.i64 j.args3) :: SV.v (Value.int IntKind.i64 j.args4) :: SV.v (Value.int IntKind.i64 j.args5) :: SV.v (Value.int IntKind.i64 j.to_) :: SV.v (Value.int IntKind.i64 j.else_) :: @List.nil SV))) = decide (i = j) := by
  obtain ⟨⟩ := i
  obtain ⟨⟩ := j
  simp only [List.drop, List.take, eqSs_cons, eqSs_nil, eqS_int, eqS_str, Bool.and_true, Dop.Ins.mk.injEq]
  rw [Bool.eq_iff_iff]
  simp only [Bool.and_eq_true, decide_eq_true_eq]
theorem equal_loop (s u : List En.Dop.Ins) (hl : s.length < 1000000) (hu : s.length = u.length) : ∀ (n k : Nat), k + n = s.length → Tryd.m13_4 s u (I s.length) (I k) = some ((decide (s.drop k = u.drop k), ()), ())
  | 0, k, h => by
    have e : k = s.length := by omega
    rw [Tryd.m13_4_eq, List.drop_eq_nil_of_le (by omega : s.length ≤ k), List.drop_eq_nil_of_le (by omega : u.length ≤ k)]
    subst e
    simp only [I_nlt, decide_false, Bool.false_eq_true, if_false, decide_true]
  | n + 1, k, h => by
    have hk : k < s.length := by omega
    have hk' : k < u.length := by omega
    have k1 := equal_loop s u hl hu n (k + 1) (by omega)
    rw [Tryd.m13_4_eq]
    simp only [I_lt hk, I_lt hk', I_nn, I_nat, I_s, I_in hk hl, and_self, decide_true, if_true, k1, eqI]
    rw [drop_get En.Dop.d3 hk, drop_get En.Dop.d3 hk']
    by_cases hc : s.getD k En.Dop.d3 = u.getD k En.Dop.d3
    · simp only [hc, decide_true, Bool.not_true, Bool.false_eq_true, if_false, List.cons.injEq, true_and]
    · simp only [hc, decide_false, Bool.not_false, if_true, List.cons.injEq, false_and]
theorem equal_v (s u : List En.Dop.Ins) (hl : s.length < 1000000) : Tryd.m13 s u = some ((decide (s = u), ()), ()) := by
  rw [Tryd.m13_eq]
  by_cases hu : s.length = u.length
  · have h := equal_loop s u hl hu s.length 0 (by omega)
    have h' : Tryd.m13_4 s u (I s.length) 0 = some ((decide (s = u), ()), ()) := h
    have e : (I s.length = I u.length) := by rw [hu]
    simp only [e, decide_true, Bool.not_true, Bool.false_eq_true, if_false]
    rw [← e]; exact h'
  · have e : ¬ (I s.length = I u.length) := by simp only [I_eq]; omega
    have e2 : ¬ (s = u) := fun h => hu (by rw [h])
    simp only [e, e2, decide_false, Bool.not_false, if_true]
theorem same_v (f g : En.Dop.Fnc) (hl : f.code.length < 1000000) : Tryd.m6 f g = some ((decide (f = g), ()), ()) := by
  rw [Tryd.m6_eq, equal_v _ _ hl]
  obtain ⟨a1, a2, a3, a4, a5⟩ := f
  obtain ⟨b1, b2, b3, b4, b5⟩ := g
  simp only [decide_eq_true_eq, Dop.Fnc.mk.injEq, Option.bind]
  by_cases h1 : a1 = b1
  case neg => simp only [h1, if_false, false_and, decide_false]
  by_cases h2 : a2 = b2
  case neg => simp only [h1, h2, if_true, if_false, false_and, and_false, decide_false]
  by_cases h3 : a3 = b3
  case neg => simp only [h1, h2, h3, if_true, if_false, false_and, and_false, decide_false]
  by_cases h4 : a4 = b4
  case neg => simp only [h1, h2, h3, h4, if_true, if_false, false_and, and_false, decide_false]
  simp only [h1, h2, h3, h4, if_true, true_and]
end Go.Proofs.Law
