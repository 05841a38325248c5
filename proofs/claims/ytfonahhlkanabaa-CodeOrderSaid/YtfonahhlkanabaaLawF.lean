/-
  Layer 7, plain: the small unit's run; what the laws say where a unit is too great; and CodeRights.
-/
import Derived.Test.YtfonahhlkanabaaLawE
set_option maxRecDepth 20000
namespace Go.Proofs.Law
open Go Go.En Go.Proofs

set_option linter.unusedSimpArgs false in
theorem in_8 : inR 8 = true := rfl
set_option linter.unusedSimpArgs false in
theorem in_7 : inR 7 = true := rfl
set_option linter.unusedSimpArgs false in
theorem run_7 (a b : Int) (c : List Int) (by_ : List (List UInt8 × En.Dop.Fnc)) (mem : List Int) : Try.m15_18 7 a b c by_ mem 1 [] [] true 1 7 [] = some ((⟨1, 7, []⟩, ()), ()) := by
  rw [Try.m15_18_eq]
  simp only [one_len, Int.reduceSub, Int.reduceToNat, Int.reduceAdd, Int.zero_add, Int.add_zero, List.getD_cons_zero, fM_len, fM_0, fM_1, iC_k, iC_d, iC_n, iR_k, iR_a, in_0, in_1, in_2, in_8, in_7, Int.reduceEq, Int.reduceLT, Int.reduceLE, Int.reduceMul, Int.le_refl, Int.lt_irrefl, List.length_cons, List.length_nil, Nat.zero_add, Nat.reduceLT, Nat.lt_irrefl, Nat.zero_lt_one, and_self, true_and, and_true, decide_true, decide_false, Bool.false_eq_true, if_true, if_false, ↓reduceIte, List.set_cons_zero, Bool.and_self, Bool.not_false, Bool.not_true, fM_f, List.take, Option.bind]
set_option linter.unusedSimpArgs false in
theorem run_8 (a b : Int) (c : List Int) (by_ : List (List UInt8 × En.Dop.Fnc)) (mem : List Int) : Try.m15_18 8 a b c by_ mem 1 [] [⟨fM, [7], 1, 1, -1⟩] false 0 0 [] = some ((⟨1, 7, []⟩, ()), ()) := by
  rw [Try.m15_18_eq, step_R]
  simp only [one_len, Int.reduceSub, Int.reduceToNat, Int.reduceAdd, Int.zero_add, Int.add_zero, List.getD_cons_zero, fM_len, fM_0, fM_1, iC_k, iC_d, iC_n, iR_k, iR_a, in_0, in_1, in_2, in_8, in_7, Int.reduceEq, Int.reduceLT, Int.reduceLE, Int.reduceMul, Int.le_refl, Int.lt_irrefl, List.length_cons, List.length_nil, Nat.zero_add, Nat.reduceLT, Nat.lt_irrefl, Nat.zero_lt_one, and_self, true_and, and_true, decide_true, decide_false, Bool.false_eq_true, if_true, if_false, ↓reduceIte, List.set_cons_zero, Bool.and_self, Bool.not_false, Bool.not_true, fM_f, List.take, Option.bind]
  exact run_7 a b c by_ mem
set_option linter.unusedSimpArgs false in
theorem run_9 (a b : Int) (c : List Int) (by_ : List (List UInt8 × En.Dop.Fnc)) (mem : List Int) : Try.m15_18 9 a b c by_ mem 1 [] [⟨fM, [0], 1, 0, -1⟩] false 0 0 [] = some ((⟨1, 7, []⟩, ()), ()) := by
  rw [Try.m15_18_eq, step_C]
  simp only [one_len, Int.reduceSub, Int.reduceToNat, Int.reduceAdd, Int.zero_add, Int.add_zero, List.getD_cons_zero, fM_len, fM_0, fM_1, iC_k, iC_d, iC_n, iR_k, iR_a, in_0, in_1, in_2, in_8, in_7, Int.reduceEq, Int.reduceLT, Int.reduceLE, Int.reduceMul, Int.le_refl, Int.lt_irrefl, List.length_cons, List.length_nil, Nat.zero_add, Nat.reduceLT, Nat.lt_irrefl, Nat.zero_lt_one, and_self, true_and, and_true, decide_true, decide_false, Bool.false_eq_true, if_true, if_false, ↓reduceIte, List.set_cons_zero, Bool.and_self, Bool.not_false, Bool.not_true, fM_f, List.take, Option.bind]
  exact run_8 a b c by_ mem
set_option linter.unusedSimpArgs false in
theorem fM_regs : fM.regs = 1 := rfl
set_option linter.unusedSimpArgs false in
theorem uM_fs : uM.funcs = [fM] := rfl
set_option linter.unusedSimpArgs false in
theorem uM_gs : uM.globals = [] := rfl
set_option linter.unusedSimpArgs false in
theorem uM_top : uM.top = 1 := rfl
set_option linter.unusedSimpArgs false in
theorem fM_params : fM.params = 0 := rfl
set_option linter.unusedSimpArgs false in
theorem I_0 : I 0 = 0 := rfl
set_option linter.unusedSimpArgs false in
theorem I_8 : I 8 = 8 := rfl
set_option linter.unusedSimpArgs false in
theorem regs_1 : List.take (List.replicate (1 : Nat) (0 : Int)).length ([] : List Int) ++ List.drop ([] : List Int).length (List.replicate (1 : Nat) (0 : Int)) = [0] := rfl
set_option linter.unusedSimpArgs false in
theorem room_112 (x : En.Dop.Frm) : room 112 (([] : List En.Dop.Frm).length + [x].length) = true := rfl
set_option linter.unusedSimpArgs false in
theorem run_b (a b : Int) (c : List Int) (by_ : List (List UInt8 × En.Dop.Fnc)) (mem : List Int) (hm : I mem.length = 4096) : Try.m15_12 9 0 [fM] 1 1 uM a b c by_ mem 1 [] [] false 0 0 [] = some ((⟨1, 7, []⟩, ()), ()) := by
  rw [Try.m15_12_eq, uM_fs, show [fM].getD (0 : Int).toNat Dop.d4 = fM from rfl, fM_regs, fM_f, show (1 : Int).toNat = 1 from rfl, regs_1, room_112]
  simp only [one_len, Int.reduceSub, Int.reduceToNat, Int.reduceAdd, Int.zero_add, Int.add_zero, List.getD_cons_zero, fM_len, fM_0, fM_1, iC_k, iC_d, iC_n, iR_k, iR_a, in_0, in_1, in_2, in_8, in_7, Int.reduceEq, Int.reduceLT, Int.reduceLE, Int.reduceMul, Int.le_refl, Int.lt_irrefl, List.length_cons, List.length_nil, Nat.zero_add, Nat.reduceLT, Nat.lt_irrefl, Nat.zero_lt_one, and_self, true_and, and_true, decide_true, decide_false, Bool.false_eq_true, if_true, if_false, ↓reduceIte, List.set_cons_zero, Bool.and_self, Bool.not_false, Bool.not_true, fM_f, List.take, Option.bind, hm, I_0, room_112]
  exact run_9 a b c by_ mem
set_option linter.unusedSimpArgs false in
theorem run_a (a b : Int) (c : List Int) (by_ : List (List UInt8 × En.Dop.Fnc)) (mem : List Int) (hm : I mem.length = 4096) : Try.m15_12 9 0 [fM] 1 0 uM a b c by_ mem 1 [] [] false 0 0 [] = some ((⟨1, 7, []⟩, ()), ()) := by
  rw [Try.m15_12_eq]
  simp only [one_len, Int.reduceSub, Int.reduceToNat, Int.reduceAdd, Int.zero_add, Int.add_zero, List.getD_cons_zero, fM_len, fM_0, fM_1, iC_k, iC_d, iC_n, iR_k, iR_a, in_0, in_1, in_2, in_8, in_7, Int.reduceEq, Int.reduceLT, Int.reduceLE, Int.reduceMul, Int.le_refl, Int.lt_irrefl, List.length_cons, List.length_nil, Nat.zero_add, Nat.reduceLT, Nat.lt_irrefl, Nat.zero_lt_one, and_self, true_and, and_true, decide_true, decide_false, Bool.false_eq_true, if_true, if_false, ↓reduceIte, List.set_cons_zero, Bool.and_self, Bool.not_false, Bool.not_true, fM_f, List.take, Option.bind]
  exact run_b a b c _ mem hm
set_option linter.unusedSimpArgs false in
theorem uM_run : Try.m15 uM [] 9 = some ((⟨1, 7, []⟩, ()), ()) := by
  have hf : Try.m13 uM [109, 97, 105, 110] = some ((0, ()), ()) := uM_find
  rw [Try.m15_eq, hf, uM_v]
  have hm : I (List.replicate (Int.toNat (4096 : Int)) (0 : Int)).length = 4096 := by rw [List.length_replicate]; rfl
  revert hm
  generalize List.replicate (Int.toNat (4096 : Int)) (0 : Int) = mem
  intro hm
  simp only [one_len, Int.reduceSub, Int.reduceToNat, Int.reduceAdd, Int.zero_add, Int.add_zero, List.getD_cons_zero, fM_len, fM_0, fM_1, iC_k, iC_d, iC_n, iR_k, iR_a, in_0, in_1, in_2, in_8, in_7, Int.reduceEq, Int.reduceLT, Int.reduceLE, Int.reduceMul, Int.le_refl, Int.lt_irrefl, List.length_cons, List.length_nil, Nat.zero_add, Nat.reduceLT, Nat.lt_irrefl, Nat.zero_lt_one, and_self, true_and, and_true, decide_true, decide_false, Bool.false_eq_true, if_true, if_false, ↓reduceIte, List.set_cons_zero, Bool.and_self, Bool.not_false, Bool.not_true, fM_f, List.take, Option.bind, uM_fs, uM_gs, uM_top, fM_params, I_0, I_8]
  rw [Try.m15_6_eq]
  simp only [one_len, Int.reduceSub, Int.reduceToNat, Int.reduceAdd, Int.zero_add, Int.add_zero, List.getD_cons_zero, fM_len, fM_0, fM_1, iC_k, iC_d, iC_n, iR_k, iR_a, in_0, in_1, in_2, in_8, in_7, Int.reduceEq, Int.reduceLT, Int.reduceLE, Int.reduceMul, Int.le_refl, Int.lt_irrefl, List.length_cons, List.length_nil, Nat.zero_add, Nat.reduceLT, Nat.lt_irrefl, Nat.zero_lt_one, and_self, true_and, and_true, decide_true, decide_false, Bool.false_eq_true, if_true, if_false, ↓reduceIte, List.set_cons_zero, Bool.and_self, Bool.not_false, Bool.not_true, fM_f, List.take, Option.bind, uM_fs, uM_gs, uM_top, I_0]
  exact run_a _ _ _ _ mem hm
set_option linter.unusedSimpArgs false in
theorem awake : Try.m8 = some ((true, ()), ()) := by
  have e1 : Try.m15 (Dop.Unt.mk (Dop.Fnc.mk [109, 97, 105, 110] 0 1 0 [iC, iR] :: []) [] 1) [] 9 = some ((⟨1, 7, []⟩, ()), ()) := uM_run
  have e2 : Try.m11 (Dop.Unt.mk (Dop.Fnc.mk [109, 97, 105, 110] 0 1 0 [iC, iR] :: []) [] 1) = some ((true, ()), ()) := uM_v
  have e3 : Try.m19 iC = some ((0, ()), ()) := by
    rw [Try.m19_eq, iC_k, Try.m29_eq]; rfl
  rw [Try.m8_eq, Try.m18_eq, Try.m18_eq]
  show ((Try.m15 (Dop.Unt.mk (Dop.Fnc.mk [109, 97, 105, 110] 0 1 0 [iC, iR] :: []) [] 1) [] 9).bind fun y4 => (Try.m11 (Dop.Unt.mk (Dop.Fnc.mk [109, 97, 105, 110] 0 1 0 [iC, iR] :: []) [] 1)).bind fun y5 =>
    if y5.fst.fst = true then if (decide (y4.fst.fst.end_ = 1)) = true then if (decide (y4.fst.fst.code = 7)) = true then (Try.m19 iC).bind fun y9 => some ((decide (y9.fst.fst = 0), ()), ()) else some ((false, ()), ()) else some ((false, ()), ()) else some ((false, ()), ())) = _
  rw [e1, e2, e3]
  rfl

set_option linter.unusedSimpArgs false in
/-- A function is small, or is not. -/
theorem small_loop (l : List En.Dop.Ins) (hl : l.length < 1000000) : ∀ (n k : Nat), k + n = l.length → ∃ r, Try.m17_4 l (I l.length) (I k) = some ((r, ()), ())
  | 0, k, h => by
    have e : k = l.length := by omega
    subst e
    rw [Try.m17_4_eq]
    simp only [I_nlt, decide_false, Bool.false_eq_true, if_false]
    exact ⟨_, rfl⟩
  | n + 1, k, h => by
    have hk : k < l.length := by omega
    obtain ⟨r, k1⟩ := small_loop l hl n (k + 1) (by omega)
    rw [Try.m17_4_eq]
    simp only [I_lt hk, I_nn, I_nat, I_s, I_in hk hl, and_self, decide_true, if_true, k1]
    split
    · exact ⟨_, rfl⟩
    · exact ⟨r, rfl⟩
set_option linter.unusedSimpArgs false in
theorem small (f : En.Dop.Fnc) : ∃ r, Try.m17 f = some ((r, ()), ()) := by
  rw [Try.m17_eq]
  split
  · exact ⟨_, rfl⟩
  split
  · exact ⟨_, rfl⟩
  rename_i h
  have hl : f.code.length < 1000000 := by
    simp only [decide_eq_true_eq, I_eq] at h; omega
  obtain ⟨r, hr⟩ := small_loop f.code hl f.code.length 0 (by omega)
  have hr' : Try.m17_4 f.code (I f.code.length) 0 = some ((r, ()), ()) := hr
  rw [hr']
  repeat' split
  all_goals exact ⟨_, rfl⟩
set_option linter.unusedSimpArgs false in
/-- A unit is of few, or is not. -/
theorem few_glob (u : En.Dop.Unt) : ∀ (n k : Nat), k + n = 11 → ∃ r, Try.m7_7 (I k) u = some ((r, ()), ()) ∧ (r = true → u.funcs.length ≤ 6 ∧ u.globals.length ≤ 10) := fun n => by
  have fin : ∃ r, (if (decide (I u.funcs.length ≤ 6)) = true then some ((decide (I u.globals.length ≤ 10), ()), ()) else some ((false, ()), ()) : Option (Spec.D En.Dop.D7 ⟨[.fd .bool], []⟩)) = some ((r, ()), ()) ∧ (r = true → u.funcs.length ≤ 6 ∧ u.globals.length ≤ 10) := by
    split
    · rename_i h
      refine ⟨_, rfl, fun h2 => ?_⟩
      simp only [decide_eq_true_eq, I_eq] at h h2
      omega
    · exact ⟨_, rfl, fun h => by cases h⟩
  induction n with
  | zero =>
    intro k h
    have e : ¬ I k ≤ 10 := by simp only [I_eq]; omega
    rw [Try.m7_7_eq]
    simp only [e, decide_false, Bool.false_eq_true, if_false]
    split <;> exact fin
  | succ n ih =>
    intro k h
    obtain ⟨r, k1, k2⟩ := ih (k + 1) (by omega)
    have e4 : inR (I (k + 1)) = true := by rw [inR_iff]; simp only [I_eq]; omega
    have e : I k ≤ 10 := by simp only [I_eq]; omega
    rw [Try.m7_7_eq]
    by_cases hk : I k < I u.globals.length
    · simp only [hk, e, I_nn, I_nat, I_s, e4, and_self, decide_true, if_true, k1]
      split
      · exact ⟨_, rfl, fun h => by cases h⟩
      · exact ⟨r, rfl, k2⟩
    · simp only [hk, decide_false, Bool.false_eq_true, if_false]
      exact fin
set_option linter.unusedSimpArgs false in
theorem few_func (u : En.Dop.Unt) : ∀ (n k : Nat), k + n = 7 → ∃ r, Try.m7_2 (I k) u = some ((r, ()), ()) ∧ (r = true → u.funcs.length ≤ 6 ∧ u.globals.length ≤ 10)
  | 0, k, h => by
    have e : ¬ I k ≤ 6 := by simp only [I_eq]; omega
    rw [Try.m7_2_eq]
    simp only [e, decide_false, Bool.false_eq_true, if_false]
    split <;> exact few_glob u 11 0 (by omega)
  | n + 1, k, h => by
    obtain ⟨r, k1, k2⟩ := few_func u n (k + 1) (by omega)
    obtain ⟨q, hq⟩ := small (u.funcs.getD k Dop.d4)
    have e4 : inR (I (k + 1)) = true := by rw [inR_iff]; simp only [I_eq]; omega
    have e : I k ≤ 6 := by simp only [I_eq]; omega
    rw [Try.m7_2_eq]
    by_cases hk : I k < I u.funcs.length
    · simp only [hk, e, I_nn, I_nat, I_s, e4, and_self, decide_true, if_true, k1, hq, Option.bind]
      cases q
      · exact ⟨false, rfl, fun h => by cases h⟩
      · exact ⟨r, rfl, k2⟩
    · simp only [hk, decide_false, Bool.false_eq_true, if_false]
      exact few_glob u 11 0 (by omega)
set_option linter.unusedSimpArgs false in
theorem few (u : En.Dop.Unt) : ∃ r, Try.m7 u = some ((r, ()), ()) ∧ (r = true → u.funcs.length ≤ 6 ∧ u.globals.length ≤ 10) := by
  rw [Try.m7_eq]
  exact few_func u 7 0 (by omega)

set_option linter.unusedSimpArgs false in
theorem rights_loop (u : En.Dop.Unt) (nm : List UInt8) (hl : u.funcs.length < 1000000) (hg : u.globals.length < 1000000) : ∀ (n k : Nat), k + n = u.funcs.length → Try.m3_4 nm u.funcs (I u.funcs.length) (I k) u = some ((true, ()), ())
  | 0, k, h => by
    have e : k = u.funcs.length := by omega
    subst e
    obtain ⟨r, r1, r2⟩ := unit u hl hg
    rw [Try.m3_4_eq]
    simp only [I_nlt, decide_false, Bool.false_eq_true, if_false, r1, r2, m13_v u _ hl, m14_v u _ hl, awake, Option.bind, BEq.rfl, if_true, decide_true]
  | n + 1, k, h => by
    have hk : k < u.funcs.length := by omega
    have ih := rights_loop u nm hl hg n (k + 1) (by omega)
    obtain ⟨r, r1, r2⟩ := func (u.funcs.getD k Dop.d4)
    rw [Try.m3_4_eq]
    simp only [I_lt hk, I_nn, I_nat, I_s, I_in hk hl, and_self, decide_true, if_true, r1, r2, Option.bind, ih]
    cases r <;> rfl
set_option linter.unusedSimpArgs false in
/-- THE LAW 'CodeRights': true of all data. -/
theorem rights (u : En.Dop.Unt) (nm : List UInt8) : Try.m3 u nm = some ((true, ()), ()) := by
  obtain ⟨r, r1, r2⟩ := few u
  rw [Try.m3_eq, r1]
  cases r with
  | false => simp only [Option.bind, Bool.not_false, if_true, awake]
  | true =>
    obtain ⟨h1, h2⟩ := r2 rfl
    simp only [Option.bind, Bool.not_true, Bool.false_eq_true, if_false, awake]
    split
    · rfl
    · exact rights_loop u nm (by omega) (by omega) u.funcs.length 0 (by omega)
end Go.Proofs.Law
