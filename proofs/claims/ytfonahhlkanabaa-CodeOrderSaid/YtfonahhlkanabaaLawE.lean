/-
  Layer 7, plain: a small unit that returns 7; what the laws say where a unit is too great for them.
-/
import Derived.Test.YtfonahhlkanabaaLawD
set_option maxRecDepth 20000
namespace Go.Proofs.Law
open Go Go.En Go.Proofs

def mainN : List UInt8 := [109, 97, 105, 110]
def iC : En.Dop.Ins := ⟨1, 0, 0, 0, 0, 7, [], 0, 0, 0, 0, 0, 0, 0, -1⟩
def iR : En.Dop.Ins := ⟨13, 0, -1, 0, 0, 0, [], 0, 0, 0, 0, 0, 0, 0, -1⟩
def fM : En.Dop.Fnc := ⟨mainN, 0, 1, 0, [iC, iR]⟩
def uM : En.Dop.Unt := ⟨[fM], [], 1⟩

set_option linter.unusedSimpArgs false in
theorem r13 (a : Int) (f : En.Dop.Fnc) : Try.m20 ⟨13, 0, -1, a, 0, 0, [], 0, 0, 0, 0, 0, 0, 0, -1⟩ f = if okR f [a] = true then some ((true, ()), ()) else some ((false, ()), ()) := by
  simp (decide := true) only [Try.m20_eq, Try.m32_eq, Try.m43_eq, Try.m43_9_eq, Try.m18_eq, Try.m29_eq, Try.m32_9_eq, Try.m32_16_eq, m30_v, Try.m34_eq, m33_v, andC_none, room_1, room_2, room_3,
    Option.bind, eqSs_cons, eqSs_nil, eqS_int, eqS_str, spl_one, List.set, List.take, List.drop, List.append, List.cons_append, List.nil_append, List.append_nil, List.length_nil, List.length_cons, if_true, if_false, ↓reduceIte, decide_true, decide_false, Bool.not_true, Bool.not_false, Bool.true_and, Bool.and_true, Nat.zero_add, Nat.reduceAdd]
  cases okR f [a] <;> rfl
set_option linter.unusedSimpArgs false in
theorem r1 (d n : Int) (f : En.Dop.Fnc) : Try.m20 ⟨1, 0, d, 0, 0, n, [], 0, 0, 0, 0, 0, 0, 0, -1⟩ f = if (decide (0 ≤ d) && decide (d < f.regs)) = true then some ((decide (-2147483648 ≤ n) && decide (n ≤ 2147483647), ()), ()) else some ((false, ()), ()) := by
  simp (decide := true) only [Try.m20_eq, Try.m32_eq, Try.m43_eq, Try.m43_9_eq, Try.m18_eq, Try.m29_eq, Try.m32_9_eq, Try.m32_16_eq, m30_v, Try.m34_eq, m33_v, m22_v, okR, List.all_nil,
    Option.bind, eqSs_cons, eqSs_nil, eqS_int, eqS_str, spl_one, List.set, List.take, List.drop, List.append, List.cons_append, List.nil_append, List.append_nil, List.length_nil, List.length_cons, if_true, if_false, ↓reduceIte, decide_true, decide_false, Bool.not_true, Bool.not_false, Bool.true_and, Bool.and_true, Nat.zero_add, Nat.reduceAdd]
  cases (decide (0 ≤ d) && decide (d < f.regs)) <;> rfl
set_option linter.unusedSimpArgs false in
theorem iC_v : Try.m20 iC fM = some ((true, ()), ()) := by
  have := r1 0 7 fM
  have e : (decide ((0 : Int) ≤ 0) && decide ((0 : Int) < fM.regs)) = true := rfl
  rw [e, if_pos rfl] at this
  exact this
set_option linter.unusedSimpArgs false in
theorem iR_v : Try.m20 iR fM = some ((true, ()), ()) := by
  have := r13 0 fM
  have e : okR fM [0] = true := rfl
  rw [e, if_pos rfl] at this
  exact this
set_option linter.unusedSimpArgs false in
theorem fM_v : Try.m9 fM = some ((true, ()), ()) := by
  have l2 : I fM.code.length = 2 := rfl
  have l3 : I [iC, iR].length = 2 := rfl
  have i1 : inR (1 : Int) = true := rfl
  have i2 : inR (2 : Int) = true := rfl
  have h1 : Try.m9_4 [iC, iR] 2 2 fM = some ((true, ()), ()) := by
    have e2 : fM.code.getD (1 : Int).toNat Dop.d3 = iR := rfl
    have e3 : iR.kind = 13 := rfl
    rw [Try.m9_4_eq, l2, show (2 - 1 : Int) = 1 from rfl, e2, e3, i1]
    simp
  have h2 : Try.m9_4 [iC, iR] 2 1 fM = some ((true, ()), ()) := by
    have e : ([iC, iR].getD (1 : Int).toNat Dop.d3) = iR := rfl
    rw [Try.m9_4_eq, l3, e, iR_v, show (1 + 1 : Int) = 2 from rfl, i2, h1]
    rfl
  have h3 : Try.m9_4 [iC, iR] 2 0 fM = some ((true, ()), ()) := by
    have e : ([iC, iR].getD (0 : Int).toNat Dop.d3) = iC := rfl
    rw [Try.m9_4_eq, l3, e, iC_v, show (0 + 1 : Int) = 1 from rfl, i1, h2]
    rfl
  rw [Try.m9_eq, l2]
  have n1 : fM.name = mainN := rfl
  have n2 : fM.params = 0 := rfl
  have n3 : fM.regs = 1 := rfl
  have n4 : fM.frame = 0 := rfl
  rw [n1, n2, n3, n4]
  have n5 : decide (mainN = ([] : List UInt8)) = false := rfl
  rw [n5]
  simp only [Bool.false_eq_true, if_false, Int.reduceLT, decide_false, Int.lt_irrefl]
  exact h3
set_option linter.unusedSimpArgs false in
theorem uM_find : Try.m13 uM mainN = some ((0, ()), ()) := by
  rw [m13_v _ _ (by decide)]; rfl
set_option linter.unusedSimpArgs false in
theorem uM_v : Try.m11 uM = some ((true, ()), ()) := by
  have h1 : Try.m11_10 [fM] 1 1 uM = some ((true, ()), ()) := by
    rw [Try.m11_10_eq]; simp (decide := true) only [if_false, ↓reduceIte]
  have h2 : Try.m11_15 [fM] 1 0 [iC, iR] 2 2 uM = some ((true, ()), ()) := by
    rw [Try.m11_15_eq]; simp (decide := true) only [if_true, if_false, ↓reduceIte, Int.zero_add, h1]
  have h3 : Try.m11_15 [fM] 1 0 [iC, iR] 2 1 uM = some ((true, ()), ()) := by
    rw [Try.m11_15_eq]
    have e : ([iC, iR].getD (1 : Int).toNat Dop.d3) = iR := rfl
    simp (decide := true) only [if_true, if_false, ↓reduceIte, e, iR, Int.reduceAdd]
    exact h2
  have h4 : Try.m11_15 [fM] 1 0 [iC, iR] 2 0 uM = some ((true, ()), ()) := by
    rw [Try.m11_15_eq]
    have e : ([iC, iR].getD (0 : Int).toNat Dop.d3) = iC := rfl
    simp (decide := true) only [if_true, if_false, ↓reduceIte, e, iC, Int.zero_add]
    exact h3
  have h5 : Try.m11_10 [fM] 1 0 uM = some ((true, ()), ()) := by
    rw [Try.m11_10_eq]
    have e : ([fM].getD (0 : Int).toNat Dop.d4) = fM := rfl
    have e2 : fM.name = mainN := rfl
    simp (decide := true) only [if_true, if_false, ↓reduceIte, e, e2, fM_v, Option.bind, uM_find, Bool.not_true]
    exact h4
  have h6 : Try.m11_4 [] 0 0 uM = some ((true, ()), ()) := by
    rw [Try.m11_4_eq]; simp (decide := true) only [if_false, ↓reduceIte]
    exact h5
  rw [Try.m11_eq]
  simp (decide := true) only [if_false, ↓reduceIte]
  exact h6

set_option linter.unusedSimpArgs false in
theorem one_len : I 1 = 1 := rfl
set_option linter.unusedSimpArgs false in
theorem fM_len : I fM.code.length = 2 := rfl
set_option linter.unusedSimpArgs false in
theorem fM_f : fM.frame = 0 := rfl
set_option linter.unusedSimpArgs false in
theorem fM_0 : fM.code.getD 0 Dop.d3 = iC := rfl
set_option linter.unusedSimpArgs false in
theorem fM_1 : fM.code.getD 1 Dop.d3 = iR := rfl
set_option linter.unusedSimpArgs false in
theorem iC_k : iC.kind = 1 := rfl
set_option linter.unusedSimpArgs false in
theorem iC_d : iC.dst = 0 := rfl
set_option linter.unusedSimpArgs false in
theorem iC_n : iC.n = 7 := rfl
set_option linter.unusedSimpArgs false in
theorem iR_k : iR.kind = 13 := rfl
set_option linter.unusedSimpArgs false in
theorem iR_a : iR.a = 0 := rfl
set_option linter.unusedSimpArgs false in
theorem in_0 : inR 0 = true := rfl
set_option linter.unusedSimpArgs false in
theorem in_1 : inR 1 = true := rfl
set_option linter.unusedSimpArgs false in
theorem in_2 : inR 2 = true := rfl
set_option linter.unusedSimpArgs false in
/-- The run's steps. -/
theorem step_C (by_ : List (List UInt8 × En.Dop.Fnc)) (mem : List Int) : Try.m27 by_ mem 1 [] [⟨fM, [0], 1, 0, -1⟩] false 0 0 [] = some ((), ((by_, (mem, (1, ([], ([⟨fM, [7], 1, 1, -1⟩], (false, (0, (0, ([], ()))))))))), ())) := by
  rw [Try.m27_eq]
  simp only [one_len, Int.reduceSub, Int.reduceToNat, Int.reduceAdd, Int.zero_add, List.getD_cons_zero, fM_len, fM_0, fM_1, iC_k, iC_d, iC_n, iR_k, iR_a, in_0, in_1, in_2, Int.reduceEq, Int.reduceLT, Int.reduceLE, Int.le_refl, Int.lt_irrefl, List.length_cons, List.length_nil, Nat.zero_add, Nat.reduceLT, Nat.lt_irrefl, Nat.zero_lt_one, and_self, true_and, and_true, decide_true, decide_false, Bool.false_eq_true, if_true, if_false, ↓reduceIte, List.set_cons_zero, Bool.and_self, Bool.not_false, Bool.not_true, fM_f, List.take, Option.bind]
  rw [Try.m27_8_eq]
  simp only [one_len, Int.reduceSub, Int.reduceToNat, Int.reduceAdd, Int.zero_add, List.getD_cons_zero, fM_len, fM_0, fM_1, iC_k, iC_d, iC_n, iR_k, iR_a, in_0, in_1, in_2, Int.reduceEq, Int.reduceLT, Int.reduceLE, Int.le_refl, Int.lt_irrefl, List.length_cons, List.length_nil, Nat.zero_add, Nat.reduceLT, Nat.lt_irrefl, Nat.zero_lt_one, and_self, true_and, and_true, decide_true, decide_false, Bool.false_eq_true, if_true, if_false, ↓reduceIte, List.set_cons_zero, Bool.and_self, Bool.not_false, Bool.not_true, fM_f, List.take, Option.bind]
  try rfl
set_option linter.unusedSimpArgs false in
theorem step_R (by_ : List (List UInt8 × En.Dop.Fnc)) (mem : List Int) : Try.m27 by_ mem 1 [] [⟨fM, [7], 1, 1, -1⟩] false 0 0 [] = some ((), ((by_, (mem, (1, ([], ([], (true, (1, (7, ([], ()))))))))), ())) := by
  rw [Try.m27_eq]
  simp only [one_len, Int.reduceSub, Int.reduceToNat, Int.reduceAdd, Int.zero_add, List.getD_cons_zero, fM_len, fM_0, fM_1, iC_k, iC_d, iC_n, iR_k, iR_a, in_0, in_1, in_2, Int.reduceEq, Int.reduceLT, Int.reduceLE, Int.le_refl, Int.lt_irrefl, List.length_cons, List.length_nil, Nat.zero_add, Nat.reduceLT, Nat.lt_irrefl, Nat.zero_lt_one, and_self, true_and, and_true, decide_true, decide_false, Bool.false_eq_true, if_true, if_false, ↓reduceIte, List.set_cons_zero, Bool.and_self, Bool.not_false, Bool.not_true, fM_f, List.take, Option.bind]
  rw [Try.m27_8_eq]
  simp only [one_len, Int.reduceSub, Int.reduceToNat, Int.reduceAdd, Int.zero_add, List.getD_cons_zero, fM_len, fM_0, fM_1, iC_k, iC_d, iC_n, iR_k, iR_a, in_0, in_1, in_2, Int.reduceEq, Int.reduceLT, Int.reduceLE, Int.le_refl, Int.lt_irrefl, List.length_cons, List.length_nil, Nat.zero_add, Nat.reduceLT, Nat.lt_irrefl, Nat.zero_lt_one, and_self, true_and, and_true, decide_true, decide_false, Bool.false_eq_true, if_true, if_false, ↓reduceIte, List.set_cons_zero, Bool.and_self, Bool.not_false, Bool.not_true, fM_f, List.take, Option.bind]
  rfl
end Go.Proofs.Law
