/-
  The program's numbers, bytes between quotes and signs are the plain ones.
-/
import Derived.Test.YtcifaokahhbflaaDoorLxD
namespace Go.Proofs.Law
open Go Go.En Go.Proofs

set_option linter.unusedSimpArgs false in
theorem byte_all {p : UInt8 → Prop} (h : ∀ n : Fin 256, p (UInt8.ofNat n.val)) (c : UInt8) : p c := by
  have := h ⟨c.toNat, c.toNat_lt⟩
  simpa using this
def hexT : List UInt8 := [48, 49, 50, 51, 52, 53, 54, 55, 56, 57, 97, 98, 99, 100, 101, 102]
set_option linter.unusedSimpArgs false in
theorem hex_ib (c : UInt8) (h : Sc.aln c = true) : Lib.indexByte hexT (Lib.lowerB c) = if Sc.hexB c = 99 then -1 else (Sc.hexB c : Int) := by
  refine byte_all (p := fun c => Sc.aln c = true → Lib.indexByte hexT (Lib.lowerB c) = if Sc.hexB c = 99 then -1 else (Sc.hexB c : Int)) ?_ c h
  decide +kernel
set_option linter.unusedSimpArgs false in
theorem hex_16 (c : UInt8) : Sc.hexB c < 16 ∨ Sc.hexB c = 99 := by
  refine byte_all (p := fun c => Sc.hexB c < 16 ∨ Sc.hexB c = 99) ?_ c
  decide +kernel
set_option linter.unusedSimpArgs false in
theorem aln_128 (c : UInt8) (h : Sc.aln c = true) : c.toNat < 128 := by
  refine byte_all (p := fun c => Sc.aln c = true → c.toNat < 128) ?_ c h
  decide +kernel
set_option linter.unusedSimpArgs false in
theorem esc_v (c : UInt8) : mlookI (mputI (mputI (mputI (mputI (mputI (@List.nil (Int × Int)) (110 : Int) (10 : Int)) (116 : Int) (9 : Int)) (48 : Int) (0 : Int)) (92 : Int) (92 : Int)) (39 : Int) (39 : Int)) (c.toNat : Int) = (Sc.escB c).map fun n => (n : Int) := by
  refine byte_all (p := fun c => mlookI (mputI (mputI (mputI (mputI (mputI (@List.nil (Int × Int)) (110 : Int) (10 : Int)) (116 : Int) (9 : Int)) (48 : Int) (0 : Int)) (92 : Int) (92 : Int)) (39 : Int) (39 : Int)) (c.toNat : Int) = (Sc.escB c).map fun n => (n : Int)) ?_ c
  decide +kernel
/-- What a number's text comes to. -/
def numR (m : Option Nat) : Spec.D En.Dop.D2 ⟨[.fd (.int .i64), .fd .bool], []⟩ := match m with
  | some v => (((v : Int), (true, ())), ())
  | none => (((0 : Int), (false, ())), ())
set_option linter.unusedSimpArgs false in
theorem take_one {s : List UInt8} {k : Nat} {c : UInt8} {r : List UInt8} (h : s.drop k = c :: r) : List.drop (I k).toNat (List.take (I (k + 1)).toNat s) = [c] := by
  rw [I_nat, I_nat, List.drop_take, h, Nat.add_sub_cancel_left]
  rfl
set_option linter.unusedSimpArgs false in
theorem digits_v (s : List UInt8) (hs : s.length ≤ 1000000) (hne : s ≠ []) (base : Nat) (hb : base = 10 ∨ base = 16) : ∀ (u : List UInt8) (k n : Nat), s.drop k = u → k ≤ s.length → (∀ c ∈ u, Sc.aln c = true) → n ≤ 4294967295 → Tryd.m41_9 s (base : Int) (n : Int) (I s.length) (I k) = some (numR (Sc.digits base n u))
  | [], k, n, h, hk, ha, hn => by
    have hl : 0 = s.length - k := by rw [← List.length_drop, h]; rfl
    have : k = s.length := by omega
    subst this
    rw [Tryd.m41_9_eq]
    simp only [I_nlt, decide_false, Bool.false_eq_true, if_false, hne, Bool.not_false, Sc.digits, numR]
  | c :: r, k, n, h, hk, ha, hn => by
    have hlt := drop_lt h
    have hin : inR (I (k + 1)) = true := by rw [inR_iff]; simp only [I_eq]; omega
    have hc := ha c List.mem_cons_self
    have ho : okL [c] = true := by
      unfold okL okS ascii
      simp [aln_128 c hc]
    have h1 : I k ≤ I (k + 1) := by simp only [I_eq]; omega
    have h2 : I (k + 1) ≤ I s.length := by simp only [I_eq]; omega
    have h3 : (0 : Int) < I ([Lib.lowerB c] : List UInt8).length := by show (0 : Int) < ((1 : Nat) : Int); decide
    have h4 : strAt [Lib.lowerB c] 0 = ((Lib.lowerB c).toNat : Int) := rfl
    have h5 : Lib.toLowerA [c] = [Lib.lowerB c] := rfl
    have hx := hex_ib c hc
    have hT : (48 : UInt8) :: (49 : UInt8) :: (50 : UInt8) :: (51 : UInt8) :: (52 : UInt8) :: (53 : UInt8) :: (54 : UInt8) :: (55 : UInt8) :: (56 : UInt8) :: (57 : UInt8) :: (97 : UInt8) :: (98 : UInt8) :: (99 : UInt8) :: (100 : UInt8) :: (101 : UInt8) :: (102 : UInt8) :: @List.nil UInt8 = hexT := rfl
    rw [Tryd.m41_9_eq]
    simp only [I_lt hlt, I_nn, I_s, h1, h2, h3, h4, h5, take_one h, hin, ho, byte_v, hT, and_self, decide_true, if_true, Int.le_refl]
    rcases hex_16 c with h6 | h6
    · rw [if_neg (by omega)] at hx
      have g1 : ¬ ((Sc.hexB c : Int) < 0) := by omega
      simp only [hx, g1, decide_false, Bool.false_eq_true, if_false, Sc.digits]
      by_cases g2 : base ≤ Sc.hexB c
      · have g3 : (base : Int) ≤ (Sc.hexB c : Int) := by omega
        simp only [g2, g3, decide_true, if_true, numR]
      · have g3 : ¬ (base : Int) ≤ (Sc.hexB c : Int) := by omega
        have hm : n * base ≤ 4294967295 * 16 := by
          rcases hb with rfl | rfl <;> omega
        have e1 : (n : Int) * (base : Int) = ((n * base : Nat) : Int) := by simp
        have e2 : ((n * base : Nat) : Int) + (Sc.hexB c : Int) = ((n * base + Sc.hexB c : Nat) : Int) := by simp
        have i1 : inR ((n * base : Nat) : Int) = true := by rw [inR_iff]; omega
        have i2 : inR ((n * base + Sc.hexB c : Nat) : Int) = true := by rw [inR_iff]; omega
        simp only [g2, g3, decide_false, Bool.false_eq_true, if_false, e1, e2, i1, i2, if_true]
        by_cases g4 : 4294967295 < n * base + Sc.hexB c
        · have g5 : (4294967295 : Int) < ((n * base + Sc.hexB c : Nat) : Int) := by omega
          simp only [g4, g5, decide_true, if_true, numR]
        · have g5 : ¬ (4294967295 : Int) < ((n * base + Sc.hexB c : Nat) : Int) := by omega
          simp only [g4, g5, decide_false, Bool.false_eq_true, if_false]
          exact digits_v s hs hne base hb r (k + 1) _ (drop_s h) hlt (fun d hd => ha d (List.mem_cons_of_mem _ hd)) (by omega)
    · rw [if_pos h6] at hx
      have g2 : base ≤ Sc.hexB c := by rcases hb with rfl | rfl <;> omega
      simp only [hx, Sc.digits, g2, if_true]
      rfl
set_option linter.unusedSimpArgs false in
theorem digits_0 (base : Int) : Tryd.m41_9 [] base 0 (I ([] : List UInt8).length) 0 = some (numR none) := by
  rw [Tryd.m41_9_eq]
  have e : I ([] : List UInt8).length = 0 := rfl
  simp only [e, Int.lt_irrefl, decide_false, Bool.false_eq_true, if_false, decide_true, Bool.not_true, numR]
set_option linter.unusedSimpArgs false in
/-- What is left when a base has been told. -/
theorem base_v (s : List UInt8) (hs : s.length ≤ 1000000) (ha : ∀ c ∈ s, Sc.aln c = true) : some (numR (if (Sc.baseL s).2 = [] then none else Sc.digits (Sc.baseL s).1 0 (Sc.baseL s).2)) =
    if Lib.hasPrefix s (48 :: 120 :: @List.nil UInt8) = true then Tryd.m41_9 (s.drop 2) 16 0 (I (s.drop 2).length) 0
    else if Lib.hasPrefix s (48 :: 88 :: @List.nil UInt8) = true then Tryd.m41_9 (s.drop 2) 16 0 (I (s.drop 2).length) 0
    else Tryd.m41_9 s 10 0 (I s.length) 0 := by
  have key : ∀ (u : List UInt8) (b : Nat), u.length ≤ 1000000 → (∀ c ∈ u, Sc.aln c = true) → (b = 10 ∨ b = 16) → some (numR (if u = [] then none else Sc.digits b 0 u)) = Tryd.m41_9 u (b : Int) 0 (I u.length) 0 := by
    intro u b h1 h2 h3
    by_cases h : u = []
    · subst h; rw [if_pos rfl]; exact (digits_0 b).symm
    · rw [if_neg h]; exact (digits_v u h1 h b h3 u 0 0 rfl (Nat.zero_le _) h2 (by omega)).symm
  have hd : (s.drop 2).length ≤ 1000000 := by rw [List.length_drop]; omega
  have hda : ∀ c ∈ s.drop 2, Sc.aln c = true := fun c hc => ha c (List.mem_of_mem_drop hc)
  unfold Sc.baseL Lib.hasPrefix
  by_cases h1 : ([48, 120] : List UInt8).isPrefixOf s = true
  · simp only [h1, true_or, if_true]
    exact key _ 16 hd hda (.inr rfl)
  · by_cases h2 : ([48, 88] : List UInt8).isPrefixOf s = true
    · simp only [h1, h2, false_or, if_true, Bool.false_eq_true, if_false]
      exact key _ 16 hd hda (.inr rfl)
    · simp only [h1, h2, false_or, Bool.false_eq_true, if_false]
      exact key _ 10 hs ha (.inl rfl)
set_option linter.unusedSimpArgs false in
theorem pre_len {s : List UInt8} {a b : UInt8} (h : Lib.hasPrefix s (a :: b :: @List.nil UInt8) = true) : (2 : Int) ≤ I s.length := by
  obtain ⟨t, ht⟩ := List.isPrefixOf_iff_prefix.1 h
  rw [← ht]
  simp only [I_eq, List.length_append, List.length_cons]
  omega
set_option linter.unusedSimpArgs false in
theorem last_at (p : List UInt8) (c : UInt8) : strAt (p ++ [c]) (I (p ++ [c]).length - 1) = (c.toNat : Int) := by
  have e : I (p ++ [c]).length - 1 = I p.length := by simp only [I_eq, List.length_append, List.length_cons, List.length_nil]; omega
  rw [e, strAt_v (c := c) (r := [])]
  simp
set_option linter.unusedSimpArgs false in
theorem last_take (p : List UInt8) (c : UInt8) : List.drop (Int.toNat (0 : Int)) (List.take (I (p ++ [c]).length - 1).toNat (p ++ [c])) = p := by
  have e : I (p ++ [c]).length - 1 = I p.length := by simp only [I_eq, List.length_append, List.length_cons, List.length_nil]; omega
  rw [e, I_nat, List.take_left]
  rfl
set_option linter.unusedSimpArgs false in
/-- The program's value of a number. -/
theorem value_v (s : List UInt8) (hs : s.length ≤ 1000000) (hne : s ≠ []) (ha : ∀ c ∈ s, Sc.aln c = true) : Tryd.m41 s = some (numR (Sc.valL s)) := by
  obtain ⟨p, c, rfl⟩ : ∃ p c, s = p ++ [c] := ⟨s.dropLast, s.getLast hne, (List.dropLast_concat_getLast hne).symm⟩
  have hlen : I (p ++ [c]).length - 1 = I p.length := by simp only [I_eq, List.length_append, List.length_cons, List.length_nil]; omega
  have i1 : inR (I (p ++ [c]).length - 1) = true := by rw [hlen, inR_iff]; simp only [I_eq, List.length_append] at hs ⊢; omega
  have c1 : (0 : Int) ≤ I (p ++ [c]).length - 1 := by rw [hlen]; exact I_nn _
  have c2 : I (p ++ [c]).length - 1 < I (p ++ [c]).length := by omega
  have c3 : I (p ++ [c]).length - 1 ≤ I (p ++ [c]).length := by omega
  have hp : p.length ≤ 1000000 := by simp only [List.length_append] at hs; omega
  have hpa : ∀ d ∈ p, Sc.aln d = true := fun d hd => ha d (List.mem_append_left _ hd)
  have key : ∀ (s : List UInt8), s.length ≤ 1000000 → (∀ c ∈ s, Sc.aln c = true) →
      (if Lib.hasPrefix s (48 :: 120 :: @List.nil UInt8) = true then (if (decide ((0 : Int) ≤ (2 : Int) ∧ (2 : Int) ≤ I s.length ∧ True)) = true then Tryd.m41_9 (List.drop (Int.toNat (2 : Int)) (List.take (I s.length).toNat s)) 16 0 (I (List.drop (Int.toNat (2 : Int)) (List.take (I s.length).toNat s)).length) 0 else none)
       else if Lib.hasPrefix s (48 :: 88 :: @List.nil UInt8) = true then (if (decide ((0 : Int) ≤ (2 : Int) ∧ (2 : Int) ≤ I s.length ∧ True)) = true then Tryd.m41_9 (List.drop (Int.toNat (2 : Int)) (List.take (I s.length).toNat s)) 16 0 (I (List.drop (Int.toNat (2 : Int)) (List.take (I s.length).toNat s)).length) 0 else none)
       else Tryd.m41_9 s 10 0 (I s.length) 0) = some (numR (if (Sc.baseL s).2 = [] then none else Sc.digits (Sc.baseL s).1 0 (Sc.baseL s).2)) := by
    intro s h1 h2
    rw [base_v s h1 h2, take_all]
    have g4 : (0 : Int) ≤ 2 := by decide
    split
    · rename_i h; simp only [pre_len h, g4, and_self, decide_true, if_true]; rfl
    · split
      · rename_i h; simp only [pre_len h, g4, and_self, decide_true, if_true]; rfl
      · rfl
  have e1 : Sc.unU (p ++ [c]) = if c = 117 ∨ c = 85 then p else p ++ [c] := by
    unfold Sc.unU
    simp only [List.getLast?_append, List.getLast?_singleton, Option.some_or, Option.some.injEq, List.dropLast_concat]
  rw [Tryd.m41_eq]
  unfold Sc.valL
  rw [e1]
  have d1 : ((c.toNat : Int) = 117) ↔ c = 117 := by rw [show (117 : Int) = ((117 : Nat) : Int) from rfl, Int.ofNat_inj]; exact toNat_byte c 117 (by decide)
  have d2 : ((c.toNat : Int) = 85) ↔ c = 85 := by rw [show (85 : Int) = ((85 : Nat) : Int) from rfl, Int.ofNat_inj]; exact toNat_byte c 85 (by decide)
  simp only [i1, c1, c2, c3, Int.le_refl, and_self, decide_true, if_true, last_at, last_take, d1, d2]
  by_cases h1 : c = 117
  · simp only [h1, decide_true, if_true, true_or]
    exact key p hp hpa
  · by_cases h2 : c = 85
    · have h1' : ¬ ((85 : UInt8) = 117) := by decide
      simp only [h1', h2, decide_true, decide_false, Bool.false_eq_true, if_false, if_true, or_true]
      exact key p hp hpa
    · simp only [h1, h2, decide_false, Bool.false_eq_true, if_false, or_self]
      exact key _ hs ha
/-- What a byte between quotes comes to. -/
def chrR (m : Option (Nat × Nat)) : Spec.D En.Dop.D2 ⟨[.fd (.int .i64), .fd (.int .i64)], []⟩ := match m with
  | some (v, k) => (((v : Int), ((k : Int), ())), ())
  | none => (((0 : Int), ((0 : Int), ())), ())
set_option linter.unusedSimpArgs false in
theorem byte_is (c : UInt8) (n : Nat) (hn : n < 256) : ((c.toNat : Int) = ((n : Nat) : Int)) ↔ c = n.toUInt8 := by
  rw [Int.ofNat_inj]; exact toNat_byte c n hn
set_option linter.unusedSimpArgs false in
theorem inB (c : UInt8) : inR (c.toNat : Int) = true := by
  have := c.toNat_lt
  rw [inR_iff]; omega
set_option linter.unusedSimpArgs false in
theorem char_v (s : List UInt8) : Tryd.m42 s = some (chrR (Sc.charL s)) := by
  rw [Tryd.m42_eq]
  have b92 : ∀ c : UInt8, ((c.toNat : Int) = 92) ↔ c = 92 := fun c => byte_is c 92 (by decide)
  have b39 : ∀ c : UInt8, ((c.toNat : Int) = 39) ↔ c = 39 := fun c => byte_is c 39 (by decide)
  have b10 : ∀ c : UInt8, ((c.toNat : Int) = 10) ↔ c = 10 := fun c => byte_is c 10 (by decide)
  match s with
  | [] => rfl
  | [a] => rfl
  | [a, b] => rfl
  | [x, a, b] =>
    have l3 : I [x, a, b].length = 3 := rfl
    have s1 : strAt [x, a, b] 1 = (a.toNat : Int) := rfl
    have s2 : strAt [x, a, b] 2 = (b.toNat : Int) := rfl
    have n43 : ¬ (4 : Int) ≤ 3 := by decide
    have n33 : (3 : Int) ≤ 3 := by decide
    have n13 : (0 : Int) ≤ 1 ∧ (1 : Int) < 3 := by decide
    have n23 : (0 : Int) ≤ 2 ∧ (2 : Int) < 3 := by decide
    simp only [l3, s1, s2, n43, n33, n13, n23, decide_true, decide_false, Bool.false_eq_true, if_false, if_true, b92, b39, b10, inB]
    simp only [Sc.charL, List.head?_nil, reduceCtorEq, if_false]
    by_cases h1 : a = 92
    · subst h1; simp [chrR]
    · by_cases h2 : a = 39
      · subst h2; simp [chrR]
      · by_cases h3 : a = 10
        · subst h3; simp [chrR]
        · by_cases h4 : b = 39
          · simp [h1, h2, h3, h4, chrR]
          · simp [h1, h2, h3, h4, chrR]
  | x :: a :: b :: d :: r =>
    have l4 : I (x :: a :: b :: d :: r).length = I (r.length + 4) := rfl
    have s1 : strAt (x :: a :: b :: d :: r) 1 = (a.toNat : Int) := rfl
    have s2 : strAt (x :: a :: b :: d :: r) 2 = (b.toNat : Int) := rfl
    have s3 : strAt (x :: a :: b :: d :: r) 3 = (d.toNat : Int) := rfl
    have n43 : (4 : Int) ≤ I (r.length + 4) := by simp only [I_eq]; omega
    have n33 : (3 : Int) ≤ I (r.length + 4) := by simp only [I_eq]; omega
    have n13 : (0 : Int) ≤ 1 ∧ (1 : Int) < I (r.length + 4) := by simp only [I_eq]; omega
    have n23 : (0 : Int) ≤ 2 ∧ (2 : Int) < I (r.length + 4) := by simp only [I_eq]; omega
    have n34 : (0 : Int) ≤ 3 ∧ (3 : Int) < I (r.length + 4) := by simp only [I_eq]; omega
    simp only [l4, s1, s2, s3, n43, n33, n13, n23, n34, decide_true, if_true, b92, b39, b10, inB, esc_v]
    simp only [Sc.charL, List.head?_cons, Option.some.injEq]
    by_cases h1 : a = 92
    · subst h1
      by_cases h2 : d = 39
      · subst h2
        cases he : Sc.escB b with
        | none => simp [chrR]
        | some v => simp [chrR]
      · simp [h2, chrR]
    · by_cases h2 : a = 39
      · subst h2; simp [chrR]
      · by_cases h3 : a = 10
        · subst h3; simp [chrR]
        · by_cases h4 : b = 39
          · simp [h1, h2, h3, h4, chrR]
          · simp [h1, h2, h3, h4, chrR]
set_option linter.unusedSimpArgs false in
theorem signs_v2 : Tryd.m15 = some ((Sc.signs, ()), ()) := by rw [Tryd.m15_eq]; rfl
set_option linter.unusedSimpArgs false in
theorem signs_v : Tryd.m14 = some ((Sc.signs, ()), ()) := signs_same.trans signs_v2
set_option linter.unusedSimpArgs false in
theorem sign_loop (s : List UInt8) (l : List (List UInt8)) (hl : l.length < 1000000) : ∀ (n k : Nat), k + n = l.length → Tryd.m43_2 s l (I l.length) (I k) = some (((((l.drop k).find? fun x => x.isPrefixOf s).getD [], ())), ())
  | 0, k, e => by
    have e : k = l.length := by omega
    subst e
    rw [Tryd.m43_2_eq, List.drop_eq_nil_of_le (Nat.le_refl _)]
    simp only [I_nlt, decide_false, Bool.false_eq_true, if_false, List.find?_nil, Option.getD_none]
  | n + 1, k, e => by
    have hk : k < l.length := by omega
    have ih := sign_loop s l hl n (k + 1) (by omega)
    have hd : l.drop k = l.getD k [] :: l.drop (k + 1) := by rw [List.drop_eq_getElem_cons hk]; simp [List.getD, hk]
    rw [Tryd.m43_2_eq, hd, List.find?_cons]
    simp only [I_lt hk, hk, I_nn, I_nat, I_s, I_in hk hl, and_self, decide_true, if_true, Lib.hasPrefix]
    cases hp : (l.getD k []).isPrefixOf s with
    | true => simp only [if_true, Option.getD_some]
    | false => simp only [Bool.false_eq_true, if_false]; exact ih
set_option linter.unusedSimpArgs false in
theorem sign_v (s : List UInt8) : Tryd.m43 s = some (((Sc.signL s).getD [], ()), ()) := by
  rw [Tryd.m43_eq, signs_v]
  simp only [Option.bind]
  exact sign_loop s Sc.signs (by decide) Sc.signs.length 0 (Nat.zero_add _)
/-- What one token comes to. -/
def oneR (m : Sc.Res) : Spec.D En.Dop.D2 ⟨[.st 4, .fd (.int .i64)], []⟩ := match m with
  | .err e => ((⟨0, [], 0, 0⟩, (e, ())), ())
  | .tok k t n => ((⟨k, t, (n : Int), 0⟩, ((0 : Int), ())), ())
set_option linter.unusedSimpArgs false in
theorem token_v (k n : Int) (m : Nat) (s : List UInt8) (h : m ≤ s.length) : Tryd.m37 k n (I m) s = some ((⟨k, s.take m, n, 0⟩, ((0 : Int), ())), ((s, ()), ())) := by
  rw [Tryd.m37_eq]
  have h1 : I m ≤ I s.length := by simp only [I_eq]; omega
  simp only [I_nn, h1, Int.le_refl, and_self, decide_true, if_true, I_nat]
  rfl
set_option linter.unusedSimpArgs false in
theorem one_v (c : UInt8) (r : List UInt8) (hs : (c :: r).length ≤ 100000) : Tryd.m22 (c :: r) = some (oneR (Sc.tokL (c :: r))) := by
  have h0 : strAt (c :: r) 0 = (c.toNat : Int) := rfl
  have hl : (0 : Int) < I (c :: r).length := by simp only [I_eq, List.length_cons]; omega
  have hr := run_v (c :: r) (by omega) (c :: r) 0 rfl (Nat.zero_le _)
  have hr' : Tryd.m39 (c :: r) = some ((I ((c :: r).takeWhile Sc.aln).length, ()), ()) := by
    rw [Tryd.m39_eq]
    have e0 : I 0 = 0 := rfl
    rw [e0] at hr
    rw [hr, Nat.zero_add]
  have htl : ((c :: r).takeWhile Sc.aln).length ≤ (c :: r).length := (List.takeWhile_prefix _).length_le
  have htt : List.drop (Int.toNat (0 : Int)) (List.take (I ((c :: r).takeWhile Sc.aln).length).toNat (c :: r)) = (c :: r).takeWhile Sc.aln := by
    rw [I_nat]
    exact (List.prefix_iff_eq_take.1 (List.takeWhile_prefix _)).symm
  have hti : I ((c :: r).takeWhile Sc.aln).length ≤ I (c :: r).length := by simp only [I_eq]; omega
  have htk : (c :: r).take ((c :: r).takeWhile Sc.aln).length = (c :: r).takeWhile Sc.aln := (List.prefix_iff_eq_take.1 (List.takeWhile_prefix _)).symm
  have ta := token_v
  rw [Tryd.m22_eq]
  simp only [Int.le_refl, hl, I_nn, and_self, decide_true, if_true, h0, let_v, dig_v, hr', Option.bind, hti, htt]
  cases h1 : Sc.letB c with
  | true =>
    simp only [if_true, is_v _ (Nat.le_trans htl hs), Sc.tokL, h1, wordsL_eq]
    by_cases hw : (c :: r).takeWhile Sc.aln ∈ Sc.words
    · simp only [hw, decide_true, if_true, token_v _ _ _ _ htl, htk]; rfl
    · simp only [hw, decide_false, Bool.false_eq_true, if_false, token_v _ _ _ _ htl, htk]; rfl
  | false =>
    simp only [Bool.false_eq_true, if_false]
    cases h2 : Sc.digB c with
    | true =>
      have hne : (c :: r).takeWhile Sc.aln ≠ [] := by
        rw [List.takeWhile_cons, Sc.aln_of_dig h2]; simp
      simp only [if_true, value_v _ (Nat.le_trans htl (by omega)) hne (fun d hd => Sc.tw_all hd), Sc.tokL, h1, h2, Bool.false_eq_true, if_false]
      cases hv : Sc.valL ((c :: r).takeWhile Sc.aln) with
      | none => rfl
      | some v => simp only [numR, Bool.not_true, Bool.false_eq_true, if_false, token_v _ _ _ _ htl, htk]; rfl
    | false =>
      simp only [Bool.false_eq_true, if_false, Sc.tokL, h1, h2]
      by_cases h3 : c = 39
      · subst h3
        have b39 : (((39 : UInt8).toNat : Int) = 39) := rfl
        simp only [b39, decide_true, if_true, char_v]
        cases hv : Sc.charL (39 :: r) with
        | none => rfl
        | some p =>
          obtain ⟨v, k⟩ := p
          have hk : 0 < k ∧ k ≤ (39 :: r).length := by
            rcases Sc.char_is hv with ⟨a, x, e1, _, _, _, _, e2⟩ | ⟨b, x, e1, _, e2⟩
            · subst e1; subst e2; simp
            · subst e1; subst e2; simp
          have hk' : (0 : Int) < (k : Int) := by omega
          have t := token_v 3 (v : Int) k (39 :: r) hk.2
          simp only [I_eq] at t
          simp only [chrR, hk', decide_true, if_true, t]
          rfl
      · have b39 : ¬ ((c.toNat : Int) = 39) := fun e => h3 ((byte_is c 39 (by decide)).1 e)
        simp only [b39, h3, decide_false, Bool.false_eq_true, if_false, sign_v]
        cases hv : Sc.signL (c :: r) with
        | none => rfl
        | some x =>
          obtain ⟨g1, y, g2⟩ := Sc.sign_is hv
          have hx := (Sc.signs_ne x g1).1
          have hxl : x.length ≤ (c :: r).length := by rw [g2]; simp
          have hxt : (c :: r).take x.length = x := by rw [g2]; exact List.take_left
          simp only [Option.getD_some, hx, decide_false, Bool.not_false, if_true, token_v _ _ _ _ hxl, hxt]
          rfl
end Go.Proofs.Law
