/-
  Layer 7, plain: a small unit that returns 7 (so the law is awake); a function is small or is not. (Picked by pickthm.py out of the texts of CodeRights.)
-/
import Derived.Test.YtfonahhlkanabaaDoorCpA
import Derived.Test.YtfonahhlkanabaaDoorLfA
set_option maxRecDepth 20000
namespace Go.Proofs.Law
open Go Go.En Go.Proofs

set_option linter.unusedSimpArgs false in
theorem I_eq (n : Nat) : I n = (n : Int) := rfl
set_option linter.unusedSimpArgs false in
theorem eqS_int (k k' : IntKind) (a b : Int) : eqS (.v (.int k a)) (.v (.int k' b)) = decide (a = b) := rfl
set_option linter.unusedSimpArgs false in
theorem eqS_str (a b : List UInt8) : eqS (.v (.string ⟨⟨a⟩⟩)) (.v (.string ⟨⟨b⟩⟩)) = decide (a = b) := rfl
set_option linter.unusedSimpArgs false in
theorem eqSs_cons (x y : SV) (r q : List SV) : eqSs (x :: r) (y :: q) = (eqS x y && eqSs r q) := rfl
set_option linter.unusedSimpArgs false in
theorem eqSs_nil : eqSs [] [] = true := rfl
set_option linter.unusedSimpArgs false in
theorem spl_one (cs : List SV) (off : Nat) (x : SV) : spl cs off [x] = cs.set off x := rfl
set_option linter.unusedSimpArgs false in
theorem andC_none (b : Bool) : andC none b = b := by cases b <;> rfl
def okR (f : En.Dop.Fnc) (l : List Int) : Bool := l.all fun x => decide (0 ≤ x) && decide (x < f.regs)
set_option linter.unusedSimpArgs false in
theorem m30_v (n : Int) (b : En.Dop.Fnc) : Tryd.m45 n b = some ((decide (0 ≤ n) && decide (n < b.regs), ()), ((b, ()), ())) := by
  rw [Tryd.m45_eq]
  by_cases h : (0 : Int) ≤ n
  · simp only [h, decide_true, if_true, Bool.true_and]; try rfl
  · simp only [h, decide_false, Bool.false_eq_true, if_false, Bool.false_and]; try rfl
set_option linter.unusedSimpArgs false in
theorem m45_v (n : Int) (b : En.Dop.Fnc) : Tryd.m62_45 n b = some ((!(decide (0 ≤ n) && decide (n < b.regs)), ()), (((), ()), ((b, ()), ()))) := by
  rw [Tryd.m62_45_eq, m30_v]; rfl
set_option linter.unusedSimpArgs false in
theorem drop_get {α : Type} {s : List α} {k : Nat} (d : α) (h : k < s.length) : s.drop k = s.getD k d :: s.drop (k + 1) := by
  rw [List.drop_eq_getElem_cons h]; simp [List.getD, h]
set_option linter.unusedSimpArgs false in
theorem m48_v (s : List Int) (b : En.Dop.Fnc) (hs : s.length < 1000000) : ∀ (n k : Nat), k + n = s.length →
    ∃ j : Int, Tryd.m73_62_45_2 s (I s.length) (I k) b = some ((j, ()), (((), ()), ((b, ()), ()))) ∧ decide (0 ≤ j) = !okR b (s.drop k)
  | 0, k, h => by
    refine ⟨-1, ?_, ?_⟩
    · rw [Tryd.m73_62_45_2_eq]
      have : ¬ (I k < I s.length) := by simp only [I_eq]; omega
      simp only [this, decide_false, Bool.false_eq_true, if_false]; try rfl
    · rw [List.drop_eq_nil_of_le (by omega)]; rfl
  | n + 1, k, h => by
    have hk : k < s.length := by omega
    obtain ⟨j, h1, h2⟩ := m48_v s b hs n (k + 1) (by omega)
    rw [Tryd.m73_62_45_2_eq]
    have e1 : I k < I s.length := by simp only [I_eq]; omega
    have e2 : (0 : Int) ≤ I k := by simp only [I_eq]; omega
    have e3 : I k + 1 = I (k + 1) := by simp only [I_eq]; omega
    have e4 : inR (I k + 1) = true := by rw [inR_iff]; simp only [I_eq]; omega
    simp only [e1, e2, and_self, decide_true, if_true, m45_v, Option.bind, e4]
    have e5 : (I k).toNat = k := Int.toNat_natCast k
    rw [e5, drop_get (0 : Int) hk]
    cases hg : (decide (0 ≤ s.getD k 0) && decide (s.getD k 0 < b.regs)) with
    | true =>
      refine ⟨j, ?_, ?_⟩
      · simp only [Bool.not_true, Bool.false_eq_true, if_false, e3]; exact h1
      · rw [h2]; simp only [okR, List.all_cons, hg, Bool.true_and]
    | false =>
      refine ⟨I k, by simp only [Bool.not_false, if_true]; try rfl, ?_⟩
      simp only [okR, List.all_cons, hg, Bool.false_and, Bool.not_false, e2, decide_true]
set_option linter.unusedSimpArgs false in
theorem m33_v (l : List Int) (b : En.Dop.Fnc) (hs : l.length < 1000000) : Tryd.m48_45 l b = some ((okR b l, ()), ((b, ()), ())) := by
  obtain ⟨j, h1, h2⟩ := m48_v l b hs l.length 0 (by omega)
  have h1' : Tryd.m73_62_45_2 l (I l.length) 0 b = some ((j, ()), (((), ()), ((b, ()), ()))) := h1
  rw [Tryd.m48_45_eq, Tryd.m61_62_45_eq, Tryd.m73_62_45_eq, h1']
  simp only [Option.bind, h2, List.drop_zero, Bool.not_not]
  try rfl
set_option linter.unusedSimpArgs false in
theorem wrap_u (n : Int) : IntKind.u32.wrap n = n % 4294967296 := by simp [IntKind.wrap, IntKind.signed, IntKind.bits]
set_option linter.unusedSimpArgs false in
theorem wrap_i (n : Int) : IntKind.i32.wrap n = if n % 4294967296 ≥ 2147483648 then n % 4294967296 - 4294967296 else n % 4294967296 := by simp [IntKind.wrap, IntKind.signed, IntKind.bits]
set_option linter.unusedSimpArgs false in
theorem wrap_word (n : Int) : decide (IntKind.i32.wrap (IntKind.u32.wrap n) = n) = (decide (-2147483648 ≤ n) && decide (n ≤ 2147483647)) := by
  rw [Bool.eq_iff_iff, wrap_u, wrap_i]
  simp only [decide_eq_true_eq, Bool.and_eq_true]
  split <;> omega
set_option linter.unusedSimpArgs false in
theorem wrap_in (n : Int) : inR (IntKind.i32.wrap (IntKind.u32.wrap n)) = true := by
  rw [inR_iff, wrap_u, wrap_i]
  split <;> omega
set_option linter.unusedSimpArgs false in
theorem m22_v (n : Int) : Tryd.m23 n = some ((decide (-2147483648 ≤ n) && decide (n ≤ 2147483647), ()), ()) := by
  rw [Tryd.m23_eq, Tryd.m36_eq]
  simp only [wrap_in, if_true, Option.bind, wrap_word]
set_option linter.unusedSimpArgs false in
theorem room_1 (a : Int) : room 8 (([] : List Int).length + [a].length) = true := rfl
set_option linter.unusedSimpArgs false in
theorem room_2 (a b : Int) : room 8 (([] ++ [a] : List Int).length + [b].length) = true := rfl
set_option linter.unusedSimpArgs false in
theorem room_3 (a b : Int) : room 8 ([a].length + [b].length) = true := rfl
set_option linter.unusedSimpArgs false in
theorem I_lt {a b : Nat} (h : a < b) : I a < I b := by simp only [I_eq]; omega
set_option linter.unusedSimpArgs false in
theorem I_nlt (a : Nat) : ¬ I a < I a := by simp only [I_eq]; omega
set_option linter.unusedSimpArgs false in
theorem I_nn (a : Nat) : (0 : Int) ≤ I a := by simp only [I_eq]; omega
set_option linter.unusedSimpArgs false in
theorem I_nat (a : Nat) : (I a).toNat = a := Int.toNat_natCast a
set_option linter.unusedSimpArgs false in
theorem I_s (a : Nat) : I a + 1 = I (a + 1) := by simp only [I_eq]; omega
set_option linter.unusedSimpArgs false in
theorem I_in {a b : Nat} (h : a < b) (hb : b < 1000000) : inR (I (a + 1)) = true := by rw [inR_iff]; simp only [I_eq]; omega
def fnd (nm : List UInt8) : List En.Dop.Fnc → Nat → Int
  | [], _ => -1
  | f :: r, k => if f.name = nm then I k else fnd nm r (k + 1)
set_option linter.unusedSimpArgs false in
theorem m25_v (f : En.Dop.Fnc) (b : List UInt8) : Tryd.m31 f b = some ((decide (f.name = b), ()), ((b, ()), ())) := by rw [Tryd.m31_eq]
set_option linter.unusedSimpArgs false in
theorem find_loop (l : List En.Dop.Fnc) (nm : List UInt8) (hl : l.length < 1000000) : ∀ (n k : Nat), k + n = l.length →
    Tryd.m30_31_2 l (I l.length) (I k) nm = some ((fnd nm (l.drop k) k, ()), ((nm, ()), ()))
  | 0, k, h => by
    have e : k = l.length := by omega
    subst e
    rw [Tryd.m30_31_2_eq, List.drop_eq_nil_of_le (Nat.le_refl _)]
    simp only [I_nlt, decide_false, Bool.false_eq_true, if_false]
    rfl
  | n + 1, k, h => by
    have hk : k < l.length := by omega
    have ih := find_loop l nm hl n (k + 1) (by omega)
    rw [Tryd.m30_31_2_eq, drop_get Dop.d4 hk]
    simp only [I_lt hk, I_nn, I_nat, I_s, I_in hk hl, and_self, decide_true, if_true, m25_v, Option.bind, ih, fnd]
    by_cases c : (l.getD k Dop.d4).name = nm
    · simp only [c, decide_true, if_true]
    · simp only [c, decide_false, Bool.false_eq_true, if_false]
set_option linter.unusedSimpArgs false in
theorem m13_v (u : En.Dop.Unt) (nm : List UInt8) (hl : u.funcs.length < 1000000) : Tryd.m19 u nm = some ((fnd nm u.funcs 0, ()), ()) := by
  have := find_loop u.funcs nm hl u.funcs.length 0 (by omega)
  have e : Tryd.m30_31_2 u.funcs (I u.funcs.length) 0 nm = some ((fnd nm u.funcs 0, ()), ((nm, ()), ())) := this
  rw [Tryd.m19_eq, Tryd.m30_31_eq, e]
  rfl
def mainN : List UInt8 := [109, 97, 105, 110]
def iC : En.Dop.Ins := ⟨1, 0, 0, 0, 0, 7, [], 0, 0, 0, 0, 0, 0, 0, -1⟩
def iR : En.Dop.Ins := ⟨13, 0, -1, 0, 0, 0, [], 0, 0, 0, 0, 0, 0, 0, -1⟩
def fM : En.Dop.Fnc := ⟨mainN, 0, 1, 0, [iC, iR]⟩
def uM : En.Dop.Unt := ⟨[fM], [], 1⟩
set_option linter.unusedSimpArgs false in
theorem r13 (a : Int) (f : En.Dop.Fnc) : Tryd.m37 ⟨13, 0, -1, a, 0, 0, [], 0, 0, 0, 0, 0, 0, 0, -1⟩ f = if okR f [a] = true then some ((true, ()), ()) else some ((false, ()), ()) := by
  simp (decide := true) only [Tryd.m37_eq, Tryd.m47_eq, Tryd.m43_eq, Tryd.m43_9_eq, Tryd.m9_eq, Tryd.m25_eq, Tryd.m47_9_eq, Tryd.m47_16_eq, m30_v, Tryd.m33_eq, m33_v, andC_none, room_1, room_2, room_3,
    Option.bind, eqSs_cons, eqSs_nil, eqS_int, eqS_str, spl_one, List.set, List.take, List.drop, List.append, List.cons_append, List.nil_append, List.append_nil, List.length_nil, List.length_cons, if_true, if_false, ↓reduceIte, decide_true, decide_false, Bool.not_true, Bool.not_false, Bool.true_and, Bool.and_true, Nat.zero_add, Nat.reduceAdd]
  cases okR f [a] <;> rfl
set_option linter.unusedSimpArgs false in
theorem r1 (d n : Int) (f : En.Dop.Fnc) : Tryd.m37 ⟨1, 0, d, 0, 0, n, [], 0, 0, 0, 0, 0, 0, 0, -1⟩ f = if (decide (0 ≤ d) && decide (d < f.regs)) = true then some ((decide (-2147483648 ≤ n) && decide (n ≤ 2147483647), ()), ()) else some ((false, ()), ()) := by
  simp (decide := true) only [Tryd.m37_eq, Tryd.m47_eq, Tryd.m43_eq, Tryd.m43_9_eq, Tryd.m9_eq, Tryd.m25_eq, Tryd.m47_9_eq, Tryd.m47_16_eq, m30_v, Tryd.m33_eq, m33_v, m22_v, okR, List.all_nil,
    Option.bind, eqSs_cons, eqSs_nil, eqS_int, eqS_str, spl_one, List.set, List.take, List.drop, List.append, List.cons_append, List.nil_append, List.append_nil, List.length_nil, List.length_cons, if_true, if_false, ↓reduceIte, decide_true, decide_false, Bool.not_true, Bool.not_false, Bool.true_and, Bool.and_true, Nat.zero_add, Nat.reduceAdd]
  cases (decide (0 ≤ d) && decide (d < f.regs)) <;> rfl
set_option linter.unusedSimpArgs false in
theorem iC_v : Tryd.m37 iC fM = some ((true, ()), ()) := by
  have := r1 0 7 fM
  have e : (decide ((0 : Int) ≤ 0) && decide ((0 : Int) < fM.regs)) = true := rfl
  rw [e, if_pos rfl] at this
  exact this
set_option linter.unusedSimpArgs false in
theorem iR_v : Tryd.m37 iR fM = some ((true, ()), ()) := by
  have := r13 0 fM
  have e : okR fM [0] = true := rfl
  rw [e, if_pos rfl] at this
  exact this
set_option linter.unusedSimpArgs false in
theorem fM_v : Tryd.m24 fM = some ((true, ()), ()) := by
  have l2 : I fM.code.length = 2 := rfl
  have l3 : I [iC, iR].length = 2 := rfl
  have i1 : inR (1 : Int) = true := rfl
  have i2 : inR (2 : Int) = true := rfl
  have h1 : Tryd.m24_4 [iC, iR] 2 2 fM = some ((true, ()), ()) := by
    have e2 : fM.code.getD (1 : Int).toNat Dop.d3 = iR := rfl
    have e3 : iR.kind = 13 := rfl
    rw [Tryd.m24_4_eq, l2, show (2 - 1 : Int) = 1 from rfl, e2, e3, i1]
    simp
  have h2 : Tryd.m24_4 [iC, iR] 2 1 fM = some ((true, ()), ()) := by
    have e : ([iC, iR].getD (1 : Int).toNat Dop.d3) = iR := rfl
    rw [Tryd.m24_4_eq, l3, e, iR_v, show (1 + 1 : Int) = 2 from rfl, i2, h1]
    rfl
  have h3 : Tryd.m24_4 [iC, iR] 2 0 fM = some ((true, ()), ()) := by
    have e : ([iC, iR].getD (0 : Int).toNat Dop.d3) = iC := rfl
    rw [Tryd.m24_4_eq, l3, e, iC_v, show (0 + 1 : Int) = 1 from rfl, i1, h2]
    rfl
  rw [Tryd.m24_eq, l2]
  have n1 : fM.name = mainN := rfl
  have n2 : fM.params = 0 := rfl
  have n3 : fM.regs = 1 := rfl
  have n4 : fM.frame = 0 := rfl
  rw [n1, n2, n3, n4]
  have n5 : decide (mainN = ([] : List UInt8)) = false := rfl
  rw [n5]
  simp only [Bool.false_eq_true, if_false, Int.reduceLT, decide_false, Int.lt_irrefl]
  exact h3
set_option linter.unusedSimpArgs false in
theorem uM_find : Tryd.m19 uM mainN = some ((0, ()), ()) := by
  rw [m13_v _ _ (by decide)]; rfl
set_option linter.unusedSimpArgs false in
theorem uM_v : Tryd.m11 uM = some ((true, ()), ()) := by
  have h1 : Tryd.m11_10 [fM] 1 1 uM = some ((true, ()), ()) := by
    rw [Tryd.m11_10_eq]; simp (decide := true) only [if_false, ↓reduceIte]
  have h2 : Tryd.m11_15 [fM] 1 0 [iC, iR] 2 2 uM = some ((true, ()), ()) := by
    rw [Tryd.m11_15_eq]; simp (decide := true) only [if_true, if_false, ↓reduceIte, Int.zero_add, h1]
  have h3 : Tryd.m11_15 [fM] 1 0 [iC, iR] 2 1 uM = some ((true, ()), ()) := by
    rw [Tryd.m11_15_eq]
    have e : ([iC, iR].getD (1 : Int).toNat Dop.d3) = iR := rfl
    simp (decide := true) only [if_true, if_false, ↓reduceIte, e, iR, Int.reduceAdd]
    exact h2
  have h4 : Tryd.m11_15 [fM] 1 0 [iC, iR] 2 0 uM = some ((true, ()), ()) := by
    rw [Tryd.m11_15_eq]
    have e : ([iC, iR].getD (0 : Int).toNat Dop.d3) = iC := rfl
    simp (decide := true) only [if_true, if_false, ↓reduceIte, e, iC, Int.zero_add]
    exact h3
  have h5 : Tryd.m11_10 [fM] 1 0 uM = some ((true, ()), ()) := by
    rw [Tryd.m11_10_eq]
    have e : ([fM].getD (0 : Int).toNat Dop.d4) = fM := rfl
    have e2 : fM.name = mainN := rfl
    simp (decide := true) only [if_true, if_false, ↓reduceIte, e, e2, fM_v, Option.bind, uM_find, Bool.not_true]
    exact h4
  have h6 : Tryd.m11_4 [] 0 0 uM = some ((true, ()), ()) := by
    rw [Tryd.m11_4_eq]; simp (decide := true) only [if_false, ↓reduceIte]
    exact h5
  rw [Tryd.m11_eq]
  simp (decide := true) only [if_false, ↓reduceIte]
  exact h6
set_option linter.unusedSimpArgs false in
theorem one_len : I 1 = 1 := rfl
set_option linter.unusedSimpArgs false in
theorem fM_len : I fM.code.length = 2 := rfl
set_option linter.unusedSimpArgs false in
theorem fM_f : fM.frame = 0 := rfl
set_option linter.unusedSimpArgs false in
theorem fM_0 : fM.code.getD 0 Dop.d3 = iC := rfl
set_option linter.unusedSimpArgs false in
theorem fM_1 : fM.code.getD 1 Dop.d3 = iR := rfl
set_option linter.unusedSimpArgs false in
theorem iC_k : iC.kind = 1 := rfl
set_option linter.unusedSimpArgs false in
theorem iC_d : iC.dst = 0 := rfl
set_option linter.unusedSimpArgs false in
theorem iC_n : iC.n = 7 := rfl
set_option linter.unusedSimpArgs false in
theorem iR_k : iR.kind = 13 := rfl
set_option linter.unusedSimpArgs false in
theorem iR_a : iR.a = 0 := rfl
set_option linter.unusedSimpArgs false in
theorem in_0 : inR 0 = true := rfl
set_option linter.unusedSimpArgs false in
theorem in_1 : inR 1 = true := rfl
set_option linter.unusedSimpArgs false in
theorem in_2 : inR 2 = true := rfl
set_option linter.unusedSimpArgs false in
theorem step_C (by_ : List (List UInt8 × En.Dop.Fnc)) (mem : List Int) : Tryd.m21 by_ mem 1 [] [⟨fM, [0], 1, 0, -1⟩] false 0 0 [] = some ((), ((by_, (mem, (1, ([], ([⟨fM, [7], 1, 1, -1⟩], (false, (0, (0, ([], ()))))))))), ())) := by
  rw [Tryd.m21_eq]
  simp only [one_len, Int.reduceSub, Int.reduceToNat, Int.reduceAdd, Int.zero_add, List.getD_cons_zero, fM_len, fM_0, fM_1, iC_k, iC_d, iC_n, iR_k, iR_a, in_0, in_1, in_2, Int.reduceEq, Int.reduceLT, Int.reduceLE, Int.le_refl, Int.lt_irrefl, List.length_cons, List.length_nil, Nat.zero_add, Nat.reduceLT, Nat.lt_irrefl, Nat.zero_lt_one, and_self, true_and, and_true, decide_true, decide_false, Bool.false_eq_true, if_true, if_false, ↓reduceIte, List.set_cons_zero, Bool.and_self, Bool.not_false, Bool.not_true, fM_f, List.take, Option.bind]
  rw [Tryd.m21_8_eq]
  simp only [one_len, Int.reduceSub, Int.reduceToNat, Int.reduceAdd, Int.zero_add, List.getD_cons_zero, fM_len, fM_0, fM_1, iC_k, iC_d, iC_n, iR_k, iR_a, in_0, in_1, in_2, Int.reduceEq, Int.reduceLT, Int.reduceLE, Int.le_refl, Int.lt_irrefl, List.length_cons, List.length_nil, Nat.zero_add, Nat.reduceLT, Nat.lt_irrefl, Nat.zero_lt_one, and_self, true_and, and_true, decide_true, decide_false, Bool.false_eq_true, if_true, if_false, ↓reduceIte, List.set_cons_zero, Bool.and_self, Bool.not_false, Bool.not_true, fM_f, List.take, Option.bind]
  try rfl
set_option linter.unusedSimpArgs false in
theorem step_R (by_ : List (List UInt8 × En.Dop.Fnc)) (mem : List Int) : Tryd.m21 by_ mem 1 [] [⟨fM, [7], 1, 1, -1⟩] false 0 0 [] = some ((), ((by_, (mem, (1, ([], ([], (true, (1, (7, ([], ()))))))))), ())) := by
  rw [Tryd.m21_eq]
  simp only [one_len, Int.reduceSub, Int.reduceToNat, Int.reduceAdd, Int.zero_add, List.getD_cons_zero, fM_len, fM_0, fM_1, iC_k, iC_d, iC_n, iR_k, iR_a, in_0, in_1, in_2, Int.reduceEq, Int.reduceLT, Int.reduceLE, Int.le_refl, Int.lt_irrefl, List.length_cons, List.length_nil, Nat.zero_add, Nat.reduceLT, Nat.lt_irrefl, Nat.zero_lt_one, and_self, true_and, and_true, decide_true, decide_false, Bool.false_eq_true, if_true, if_false, ↓reduceIte, List.set_cons_zero, Bool.and_self, Bool.not_false, Bool.not_true, fM_f, List.take, Option.bind]
  rw [Tryd.m21_8_eq]
  simp only [one_len, Int.reduceSub, Int.reduceToNat, Int.reduceAdd, Int.zero_add, List.getD_cons_zero, fM_len, fM_0, fM_1, iC_k, iC_d, iC_n, iR_k, iR_a, in_0, in_1, in_2, Int.reduceEq, Int.reduceLT, Int.reduceLE, Int.le_refl, Int.lt_irrefl, List.length_cons, List.length_nil, Nat.zero_add, Nat.reduceLT, Nat.lt_irrefl, Nat.zero_lt_one, and_self, true_and, and_true, decide_true, decide_false, Bool.false_eq_true, if_true, if_false, ↓reduceIte, List.set_cons_zero, Bool.and_self, Bool.not_false, Bool.not_true, fM_f, List.take, Option.bind]
  rfl
set_option linter.unusedSimpArgs false in
theorem in_8 : inR 8 = true := rfl
set_option linter.unusedSimpArgs false in
theorem in_7 : inR 7 = true := rfl
set_option linter.unusedSimpArgs false in
theorem run_7 (a b : Int) (c : List Int) (by_ : List (List UInt8 × En.Dop.Fnc)) (mem : List Int) : Tryd.m10_18 7 a b c by_ mem 1 [] [] true 1 7 [] = some ((⟨1, 7, []⟩, ()), ()) := by
  rw [Tryd.m10_18_eq]
  simp only [one_len, Int.reduceSub, Int.reduceToNat, Int.reduceAdd, Int.zero_add, Int.add_zero, List.getD_cons_zero, fM_len, fM_0, fM_1, iC_k, iC_d, iC_n, iR_k, iR_a, in_0, in_1, in_2, in_8, in_7, Int.reduceEq, Int.reduceLT, Int.reduceLE, Int.reduceMul, Int.le_refl, Int.lt_irrefl, List.length_cons, List.length_nil, Nat.zero_add, Nat.reduceLT, Nat.lt_irrefl, Nat.zero_lt_one, and_self, true_and, and_true, decide_true, decide_false, Bool.false_eq_true, if_true, if_false, ↓reduceIte, List.set_cons_zero, Bool.and_self, Bool.not_false, Bool.not_true, fM_f, List.take, Option.bind]
set_option linter.unusedSimpArgs false in
theorem run_8 (a b : Int) (c : List Int) (by_ : List (List UInt8 × En.Dop.Fnc)) (mem : List Int) : Tryd.m10_18 8 a b c by_ mem 1 [] [⟨fM, [7], 1, 1, -1⟩] false 0 0 [] = some ((⟨1, 7, []⟩, ()), ()) := by
  rw [Tryd.m10_18_eq, step_R]
  simp only [one_len, Int.reduceSub, Int.reduceToNat, Int.reduceAdd, Int.zero_add, Int.add_zero, List.getD_cons_zero, fM_len, fM_0, fM_1, iC_k, iC_d, iC_n, iR_k, iR_a, in_0, in_1, in_2, in_8, in_7, Int.reduceEq, Int.reduceLT, Int.reduceLE, Int.reduceMul, Int.le_refl, Int.lt_irrefl, List.length_cons, List.length_nil, Nat.zero_add, Nat.reduceLT, Nat.lt_irrefl, Nat.zero_lt_one, and_self, true_and, and_true, decide_true, decide_false, Bool.false_eq_true, if_true, if_false, ↓reduceIte, List.set_cons_zero, Bool.and_self, Bool.not_false, Bool.not_true, fM_f, List.take, Option.bind]
  exact run_7 a b c by_ mem
set_option linter.unusedSimpArgs false in
theorem run_9 (a b : Int) (c : List Int) (by_ : List (List UInt8 × En.Dop.Fnc)) (mem : List Int) : Tryd.m10_18 9 a b c by_ mem 1 [] [⟨fM, [0], 1, 0, -1⟩] false 0 0 [] = some ((⟨1, 7, []⟩, ()), ()) := by
  rw [Tryd.m10_18_eq, step_C]
  simp only [one_len, Int.reduceSub, Int.reduceToNat, Int.reduceAdd, Int.zero_add, Int.add_zero, List.getD_cons_zero, fM_len, fM_0, fM_1, iC_k, iC_d, iC_n, iR_k, iR_a, in_0, in_1, in_2, in_8, in_7, Int.reduceEq, Int.reduceLT, Int.reduceLE, Int.reduceMul, Int.le_refl, Int.lt_irrefl, List.length_cons, List.length_nil, Nat.zero_add, Nat.reduceLT, Nat.lt_irrefl, Nat.zero_lt_one, and_self, true_and, and_true, decide_true, decide_false, Bool.false_eq_true, if_true, if_false, ↓reduceIte, List.set_cons_zero, Bool.and_self, Bool.not_false, Bool.not_true, fM_f, List.take, Option.bind]
  exact run_8 a b c by_ mem
set_option linter.unusedSimpArgs false in
theorem fM_regs : fM.regs = 1 := rfl
set_option linter.unusedSimpArgs false in
theorem uM_fs : uM.funcs = [fM] := rfl
set_option linter.unusedSimpArgs false in
theorem uM_gs : uM.globals = [] := rfl
set_option linter.unusedSimpArgs false in
theorem uM_top : uM.top = 1 := rfl
set_option linter.unusedSimpArgs false in
theorem fM_params : fM.params = 0 := rfl
set_option linter.unusedSimpArgs false in
theorem I_0 : I 0 = 0 := rfl
set_option linter.unusedSimpArgs false in
theorem I_8 : I 8 = 8 := rfl
set_option linter.unusedSimpArgs false in
theorem regs_1 : List.take (List.replicate (1 : Nat) (0 : Int)).length ([] : List Int) ++ List.drop ([] : List Int).length (List.replicate (1 : Nat) (0 : Int)) = [0] := rfl
set_option linter.unusedSimpArgs false in
theorem room_112 (x : En.Dop.Frm) : room 112 (([] : List En.Dop.Frm).length + [x].length) = true := rfl
set_option linter.unusedSimpArgs false in
theorem run_b (a b : Int) (c : List Int) (by_ : List (List UInt8 × En.Dop.Fnc)) (mem : List Int) (hm : I mem.length = 4096) : Tryd.m10_12 9 0 [fM] 1 1 uM a b c by_ mem 1 [] [] false 0 0 [] = some ((⟨1, 7, []⟩, ()), ()) := by
  rw [Tryd.m10_12_eq, uM_fs, show [fM].getD (0 : Int).toNat Dop.d4 = fM from rfl, fM_regs, fM_f, show (1 : Int).toNat = 1 from rfl, regs_1, room_112]
  simp only [one_len, Int.reduceSub, Int.reduceToNat, Int.reduceAdd, Int.zero_add, Int.add_zero, List.getD_cons_zero, fM_len, fM_0, fM_1, iC_k, iC_d, iC_n, iR_k, iR_a, in_0, in_1, in_2, in_8, in_7, Int.reduceEq, Int.reduceLT, Int.reduceLE, Int.reduceMul, Int.le_refl, Int.lt_irrefl, List.length_cons, List.length_nil, Nat.zero_add, Nat.reduceLT, Nat.lt_irrefl, Nat.zero_lt_one, and_self, true_and, and_true, decide_true, decide_false, Bool.false_eq_true, if_true, if_false, ↓reduceIte, List.set_cons_zero, Bool.and_self, Bool.not_false, Bool.not_true, fM_f, List.take, Option.bind, hm, I_0, room_112]
  exact run_9 a b c by_ mem
set_option linter.unusedSimpArgs false in
theorem run_a (a b : Int) (c : List Int) (by_ : List (List UInt8 × En.Dop.Fnc)) (mem : List Int) (hm : I mem.length = 4096) : Tryd.m10_12 9 0 [fM] 1 0 uM a b c by_ mem 1 [] [] false 0 0 [] = some ((⟨1, 7, []⟩, ()), ()) := by
  rw [Tryd.m10_12_eq]
  simp only [one_len, Int.reduceSub, Int.reduceToNat, Int.reduceAdd, Int.zero_add, Int.add_zero, List.getD_cons_zero, fM_len, fM_0, fM_1, iC_k, iC_d, iC_n, iR_k, iR_a, in_0, in_1, in_2, in_8, in_7, Int.reduceEq, Int.reduceLT, Int.reduceLE, Int.reduceMul, Int.le_refl, Int.lt_irrefl, List.length_cons, List.length_nil, Nat.zero_add, Nat.reduceLT, Nat.lt_irrefl, Nat.zero_lt_one, and_self, true_and, and_true, decide_true, decide_false, Bool.false_eq_true, if_true, if_false, ↓reduceIte, List.set_cons_zero, Bool.and_self, Bool.not_false, Bool.not_true, fM_f, List.take, Option.bind]
  exact run_b a b c _ mem hm
set_option linter.unusedSimpArgs false in
theorem uM_run : Tryd.m10 uM [] 9 = some ((⟨1, 7, []⟩, ()), ()) := by
  have hf : Tryd.m19 uM [109, 97, 105, 110] = some ((0, ()), ()) := uM_find
  rw [Tryd.m10_eq, hf, uM_v]
  have hm : I (List.replicate (Int.toNat (4096 : Int)) (0 : Int)).length = 4096 := by rw [List.length_replicate]; rfl
  revert hm
  generalize List.replicate (Int.toNat (4096 : Int)) (0 : Int) = mem
  intro hm
  simp only [one_len, Int.reduceSub, Int.reduceToNat, Int.reduceAdd, Int.zero_add, Int.add_zero, List.getD_cons_zero, fM_len, fM_0, fM_1, iC_k, iC_d, iC_n, iR_k, iR_a, in_0, in_1, in_2, in_8, in_7, Int.reduceEq, Int.reduceLT, Int.reduceLE, Int.reduceMul, Int.le_refl, Int.lt_irrefl, List.length_cons, List.length_nil, Nat.zero_add, Nat.reduceLT, Nat.lt_irrefl, Nat.zero_lt_one, and_self, true_and, and_true, decide_true, decide_false, Bool.false_eq_true, if_true, if_false, ↓reduceIte, List.set_cons_zero, Bool.and_self, Bool.not_false, Bool.not_true, fM_f, List.take, Option.bind, uM_fs, uM_gs, uM_top, fM_params, I_0, I_8]
  rw [Tryd.m10_6_eq]
  simp only [one_len, Int.reduceSub, Int.reduceToNat, Int.reduceAdd, Int.zero_add, Int.add_zero, List.getD_cons_zero, fM_len, fM_0, fM_1, iC_k, iC_d, iC_n, iR_k, iR_a, in_0, in_1, in_2, in_8, in_7, Int.reduceEq, Int.reduceLT, Int.reduceLE, Int.reduceMul, Int.le_refl, Int.lt_irrefl, List.length_cons, List.length_nil, Nat.zero_add, Nat.reduceLT, Nat.lt_irrefl, Nat.zero_lt_one, and_self, true_and, and_true, decide_true, decide_false, Bool.false_eq_true, if_true, if_false, ↓reduceIte, List.set_cons_zero, Bool.and_self, Bool.not_false, Bool.not_true, fM_f, List.take, Option.bind, uM_fs, uM_gs, uM_top, I_0]
  exact run_a _ _ _ _ mem hm
set_option linter.unusedSimpArgs false in
theorem awake : Tryd.m5 = some ((true, ()), ()) := by
  have e1 : Tryd.m10 (Dop.Unt.mk (Dop.Fnc.mk [109, 97, 105, 110] 0 1 0 [iC, iR] :: []) [] 1) [] 9 = some ((⟨1, 7, []⟩, ()), ()) := uM_run
  have e2 : Tryd.m11 (Dop.Unt.mk (Dop.Fnc.mk [109, 97, 105, 110] 0 1 0 [iC, iR] :: []) [] 1) = some ((true, ()), ()) := uM_v
  have e3 : Tryd.m12 iC = some ((0, ()), ()) := by
    rw [Tryd.m12_eq, iC_k, Tryd.m25_eq]; rfl
  rw [Tryd.m5_eq, Tryd.m9_eq, Tryd.m9_eq]
  show ((Tryd.m10 (Dop.Unt.mk (Dop.Fnc.mk [109, 97, 105, 110] 0 1 0 [iC, iR] :: []) [] 1) [] 9).bind fun y4 => (Tryd.m11 (Dop.Unt.mk (Dop.Fnc.mk [109, 97, 105, 110] 0 1 0 [iC, iR] :: []) [] 1)).bind fun y5 =>
    if y5.fst.fst = true then if (decide (y4.fst.fst.end_ = 1)) = true then if (decide (y4.fst.fst.code = 7)) = true then (Tryd.m12 iC).bind fun y9 => some ((decide (y9.fst.fst = 0), ()), ()) else some ((false, ()), ()) else some ((false, ()), ()) else some ((false, ()), ())) = _
  rw [e1, e2, e3]
  rfl
set_option linter.unusedSimpArgs false in
theorem small_loop (l : List En.Dop.Ins) (hl : l.length < 1000000) : ∀ (n k : Nat), k + n = l.length → ∃ r, Tryd.m4_4 l (I l.length) (I k) = some ((r, ()), ())
  | 0, k, h => by
    have e : k = l.length := by omega
    subst e
    rw [Tryd.m4_4_eq]
    simp only [I_nlt, decide_false, Bool.false_eq_true, if_false]
    exact ⟨_, rfl⟩
  | n + 1, k, h => by
    have hk : k < l.length := by omega
    obtain ⟨r, k1⟩ := small_loop l hl n (k + 1) (by omega)
    rw [Tryd.m4_4_eq]
    simp only [I_lt hk, I_nn, I_nat, I_s, I_in hk hl, and_self, decide_true, if_true, k1]
    split
    · exact ⟨_, rfl⟩
    · exact ⟨r, rfl⟩
set_option linter.unusedSimpArgs false in
theorem small (f : En.Dop.Fnc) : ∃ r, Tryd.m4 f = some ((r, ()), ()) := by
  rw [Tryd.m4_eq]
  split
  · exact ⟨_, rfl⟩
  split
  · exact ⟨_, rfl⟩
  rename_i h
  have hl : f.code.length < 1000000 := by
    simp only [decide_eq_true_eq, I_eq] at h; omega
  obtain ⟨r, hr⟩ := small_loop f.code hl f.code.length 0 (by omega)
  have hr' : Tryd.m4_4 f.code (I f.code.length) 0 = some ((r, ()), ()) := hr
  rw [hr']
  repeat' split
  all_goals exact ⟨_, rfl⟩
end Go.Proofs.Law
