/-
  Layer 18, plain: Table, the slow way.
-/
import Derived.Test.YtfdlkehaccgeeaaDoorClC
set_option maxHeartbeats 800000
namespace Go.Proofs.Law
open Go Go.En Go.Proofs

/-- How many are not told. -/
def cnt (f : Nat → Bool) : Nat → Nat
  | 0 => 0
  | n + 1 => cnt f n + if f n = true then 0 else 1
theorem cnt_le {f f' : Nat → Bool} (h : ∀ i, f i = true → f' i = true) : ∀ n, cnt f' n ≤ cnt f n
  | 0 => Nat.le_refl _
  | n + 1 => by
    have := cnt_le h n
    simp only [cnt]
    by_cases c : f n = true
    · rw [if_pos c, if_pos (h n c)]; omega
    · rw [if_neg c]; split <;> omega
theorem cnt_lt {f f' : Nat → Bool} (h : ∀ i, f i = true → f' i = true) {k : Nat} (h0 : f k = false) (h1 : f' k = true) : ∀ n, k < n → cnt f' n < cnt f n
  | 0, hk => by omega
  | n + 1, hk => by
    simp only [cnt]
    by_cases e : k = n
    · subst e
      have := cnt_le h k
      rw [if_pos h1, if_neg (by rw [h0]; decide)]; omega
    · have := cnt_lt h h0 h1 n (by omega)
      by_cases c : f n = true
      · rw [if_pos c, if_pos (h n c)]; omega
      · rw [if_neg c]; split <;> omega
def cnt2 (f : Nat → Nat → Bool) (m : Nat) : Nat → Nat
  | 0 => 0
  | n + 1 => cnt2 f m n + cnt (f n) m
theorem cnt2_le {f f' : Nat → Nat → Bool} (h : ∀ i j, f i j = true → f' i j = true) (m : Nat) : ∀ n, cnt2 f' m n ≤ cnt2 f m n
  | 0 => Nat.le_refl _
  | n + 1 => by
    have := cnt2_le h m n
    have := cnt_le (h n) m
    simp only [cnt2]; omega
theorem cnt2_lt {f f' : Nat → Nat → Bool} (h : ∀ i j, f i j = true → f' i j = true) {a b m : Nat} (hb : b < m) (h0 : f a b = false) (h1 : f' a b = true) : ∀ n, a < n → cnt2 f' m n < cnt2 f m n
  | 0, hk => by omega
  | n + 1, hk => by
    simp only [cnt2]
    by_cases e : a = n
    · subst e
      have := cnt2_le h m a
      have := cnt_lt (h a) h0 h1 m hb
      omega
    · have := cnt2_lt h hb h0 h1 n (by omega)
      have := cnt_le (h n) m
      omega
/-! A table. -/
theorem getD_setG {α : Type} (s : List α) (i j : Nat) (v d : α) : (s.set i v).getD j d = if i = j ∧ i < s.length then v else s.getD j d := by
  simp only [List.getD, List.getElem?_set]
  by_cases e : i = j
  · subst e
    by_cases c : i < s.length
    · simp [c]
    · simp [c]
  · simp [e]
def gT (t : List (List Bool)) (i j : Nat) : Bool := (t.getD i []).getD j false
def sT (t : List (List Bool)) (a b : Nat) : List (List Bool) := t.set a ((t.getD a []).set b true)
structure Tb (n : Nat) (t : List (List Bool)) : Prop where
  len : t.length = n
  row : ∀ i, i < n → (t.getD i []).length = n
theorem sT_row {n : Nat} {t : List (List Bool)} (h : Tb n t) {a b : Nat} (ha : a < n) (i : Nat) : (sT t a b).getD i [] = if i = a then (t.getD a []).set b true else t.getD i [] := by
  unfold sT
  rw [getD_setG]
  have := h.len
  by_cases e : i = a
  · rw [if_pos ⟨e.symm, by omega⟩, if_pos e]
  · rw [if_neg (fun c => e c.1.symm), if_neg e]
theorem Tb.set {n : Nat} {t : List (List Bool)} (h : Tb n t) {a b : Nat} (ha : a < n) : Tb n (sT t a b) := by
  refine ⟨by simp [sT, h.len], fun i hi => ?_⟩
  rw [sT_row h ha]
  split
  · rw [List.length_set]; exact h.row a ha
  · exact h.row i hi
theorem gT_set {n : Nat} {t : List (List Bool)} (h : Tb n t) {a b : Nat} (ha : a < n) (hb : b < n) (i j : Nat) : gT (sT t a b) i j = if i = a ∧ j = b then true else gT t i j := by
  unfold gT
  rw [sT_row h ha]
  by_cases e : i = a
  · subst e
    rw [if_pos rfl, getD_setG]
    have := h.row i ha
    by_cases e2 : j = b
    · rw [if_pos ⟨e2.symm, by omega⟩, if_pos ⟨rfl, e2⟩]
    · rw [if_neg (fun c => e2 c.1.symm), if_neg (fun c => e2 c.2)]
  · rw [if_neg e, if_neg (fun c => e c.1)]
def LeT (t t' : List (List Bool)) : Prop := ∀ i j, gT t i j = true → gT t' i j = true
theorem LeT.refl (t : List (List Bool)) : LeT t t := fun _ _ h => h
theorem LeT.trans {t t' t'' : List (List Bool)} (h : LeT t t') (h' : LeT t' t'') : LeT t t'' := fun i j x => h' i j (h i j x)
theorem LeT.set {n : Nat} {t : List (List Bool)} (h : Tb n t) {a b : Nat} (ha : a < n) (hb : b < n) : LeT t (sT t a b) := fun i j x => by
  rw [gT_set h ha hb]; split
  · rfl
  · exact x
section
variable (o : List En.Dop.Rno)
def hdR (i : Nat) : List UInt8 := (o.getD i Dop.d3).head
def arR (i : Nat) : List Int := (o.getD i Dop.d3).args
/-- Are two arguments known to be the same? -/
def EqA (t : List (List Bool)) (x y : Int) : Prop := if x < 0 ∨ y < 0 ∨ I t.length ≤ x ∨ I t.length ≤ y then x = y else gT t x.toNat y.toNat = true
/-- What is told next. -/
def NewT (t : List (List Bool)) (i j : Nat) : Prop := gT t j i = true ∨ (∃ k, k < o.length ∧ gT t i k = true ∧ gT t k j = true) ∨ (hdR o i = hdR o j ∧ (arR o i).length = (arR o j).length ∧ ∀ q, q < (arR o i).length → EqA t ((arR o i).getD q 0) ((arR o j).getD q 0))
variable (hn : o.length ≤ 100) (h6 : ∀ x ∈ o, x.args.length ≤ 6)
include hn in
theorem loop28 (t : List (List Bool)) (ch : Bool) (i j : Nat) (ht : Tb o.length t) (hi : i < o.length) (hj : j < o.length) : ∀ (n k : Nat) (s : Bool), k + n = o.length →
    ∃ s' : Bool, (s' = true ↔ s = true ∨ ∃ k', k ≤ k' ∧ k' < o.length ∧ gT t i k' = true ∧ gT t k' j = true) ∧ Tryd.m10_28 o t ch (I i) (I j) s (I k) = Tryd.m10_28 o t ch (I i) (I j) s' (I o.length)
  | 0, k, s, e => by
    have e : k = o.length := by omega
    subst e
    exact ⟨s, ⟨.inl, fun h => by rcases h with h | ⟨k', h1, h2, _⟩ <;> first | exact h | omega⟩, rfl⟩
  | n + 1, k, s, e => by
    have hk : k < o.length := by omega
    have hl := ht.len
    have hri := ht.row i hi
    have hrk := ht.row k hk
    obtain ⟨s', h1, h2⟩ := loop28 t ch i j ht hi hj n (k + 1) (s || (gT t i k && gT t k j)) (by omega)
    refine ⟨s', h1.trans ?_, h2 ▸ ?_⟩
    · rw [Bool.or_eq_true, Bool.and_eq_true]
      constructor
      · rintro ((h | h) | ⟨k', a1, a2⟩)
        · exact .inl h
        · exact .inr ⟨k, Nat.le_refl _, hk, h⟩
        · exact .inr ⟨k', by omega, a2⟩
      · rintro (h | ⟨k', a1, a2, a3⟩)
        · exact .inl (.inl h)
        · by_cases e : k' = k
          · subst e; exact .inl (.inr a3)
          · exact .inr ⟨k', by omega, a2, a3⟩
    · have g1 : I i < I t.length := I_lt (by omega)
      have g2 : i < t.length := by omega
      have g3 : I k < I (t.getD i []).length := I_lt (by omega)
      have g4 : k < (t.getD i []).length := by omega
      have g5 : I k < I t.length := I_lt (by omega)
      have g6 : k < t.length := by omega
      have g7 : I j < I (t.getD k []).length := I_lt (by omega)
      have g8 : j < (t.getD k []).length := by omega
      conv => lhs; rw [Tryd.m10_28_eq]
      cases s with
      | true => simp only [I_lt hk, decide_true, if_true, I_s, I_in hk (show o.length < 1000000 by omega), Bool.true_or]
      | false =>
        simp only [I_lt hk, I_nn, I_nat, I_s, I_in hk (show o.length < 1000000 by omega), g1, g2, g3, g4, g5, g6, g7, g8, and_self, decide_true, Bool.and_self, if_true, Bool.false_eq_true, if_false, Bool.false_or]
        unfold gT
        cases hx : (t.getD i []).getD k false with
        | true => simp only [if_true, Bool.true_and]
        | false => simp only [Bool.false_eq_true, if_false, Bool.false_and]
/-- What is done with a cell when all is known of it. -/
noncomputable def cellR (t : List (List Bool)) (ch : Bool) (i j : Nat) (b : Bool) : Option (Spec.D En.Dop.D18 ⟨[.dp 6 32], []⟩) :=
  if b = true then Tryd.m10_23 o (sT t i j) true (I i) (I (j + 1)) else Tryd.m10_23 o t ch (I i) (I (j + 1))
include hn h6 in
theorem loop34 (t : List (List Bool)) (ch : Bool) (i j : Nat) (s : Bool) (ht : Tb o.length t) (hi : i < o.length) (hj : j < o.length) (hla : (arR o i).length = (arR o j).length) : ∀ (n k : Nat) (c : Bool), k + n = (arR o i).length →
    ∃ c' : Bool, (c' = true ↔ c = true ∧ ∀ q, k ≤ q → q < (arR o i).length → EqA t ((arR o i).getD q 0) ((arR o j).getD q 0)) ∧ Tryd.m10_34 o t ch (I i) (I j) s c (I k) = cellR o t ch i j (s || c')
  | 0, k, c, e => by
    have e : k = (arR o i).length := by omega
    subst e
    refine ⟨c, ⟨fun h => ⟨h, fun q h1 h2 => by omega⟩, fun h => h.1⟩, ?_⟩
    have hl := ht.len
    have hri := ht.row i hi
    have g1 : I i < I t.length := I_lt (by omega)
    have g2 : i < t.length := by omega
    have g3 : I j < I (t.getD i []).length := I_lt (by omega)
    have g4 : j < (t.getD i []).length := by omega
    rw [Tryd.m10_34_eq]
    unfold cellR sT
    have e2 : (@List.getD Dop.Rno o i Dop.d3).args.length = (arR o i).length := rfl
    simp only [I_lt hi, I_nn, I_nat, I_s, e2, I_nlt, I_in hj (show o.length < 1000000 by omega), g1, g2, g3, g4, and_self, decide_true, decide_false, if_true, Bool.false_eq_true, if_false]
    cases s with
    | true => simp only [if_true, Bool.true_or]
    | false => cases c with
      | true => simp only [Bool.false_eq_true, if_false, if_true, Bool.false_or]
      | false => simp only [Bool.false_eq_true, if_false, Bool.false_or]
  | n + 1, k, c, e => by
    have hk : k < (arR o i).length := by omega
    have hk2 : k < (arR o j).length := by omega
    have hl := ht.len
    have h6i : (arR o i).length ≤ 6 := h6 _ (by simp [hi])
    have e1 : (@List.getD Dop.Rno o i Dop.d3).args = arR o i := rfl
    have e2 : (@List.getD Dop.Rno o j Dop.d3).args = arR o j := rfl
    have hsplit : ∀ (b c' : Bool), (b = true ↔ c = true ∧ EqA t ((arR o i).getD k 0) ((arR o j).getD k 0)) → (c' = true ↔ b = true ∧ ∀ q, k + 1 ≤ q → q < (arR o i).length → EqA t ((arR o i).getD q 0) ((arR o j).getD q 0)) → (c' = true ↔ c = true ∧ ∀ q, k ≤ q → q < (arR o i).length → EqA t ((arR o i).getD q 0) ((arR o j).getD q 0)) := by
      intro b c' hb hc
      rw [hc, hb]
      constructor
      · rintro ⟨⟨a1, a2⟩, a3⟩
        refine ⟨a1, fun q h1 h2 => ?_⟩
        by_cases e : q = k
        · subst e; exact a2
        · exact a3 q (by omega) h2
      · rintro ⟨a1, a2⟩
        exact ⟨⟨a1, a2 k (Nat.le_refl _) hk⟩, fun q h1 h2 => a2 q (by omega) h2⟩
    cases c with
    | false =>
      obtain ⟨c', h1, h2⟩ := loop34 t ch i j s ht hi hj hla n (k + 1) false (by omega)
      refine ⟨c', hsplit false c' (by simp) h1, ?_⟩
      rw [Tryd.m10_34_eq]
      simp only [I_lt hi, I_nn, I_nat, I_s, e1, I_lt hk, I_in hk (show (arR o i).length < 1000000 by omega), and_self, decide_true, if_true, Bool.false_eq_true, if_false]
      exact h2
    | true =>
      have hgo : ∀ b : Bool, (b = true ↔ EqA t ((arR o i).getD k 0) ((arR o j).getD k 0)) → Tryd.m10_34 o t ch (I i) (I j) s true (I k) = Tryd.m10_34 o t ch (I i) (I j) s b (I (k + 1)) → ∃ c' : Bool, (c' = true ↔ true = true ∧ ∀ q, k ≤ q → q < (arR o i).length → EqA t ((arR o i).getD q 0) ((arR o j).getD q 0)) ∧ Tryd.m10_34 o t ch (I i) (I j) s true (I k) = cellR o t ch i j (s || c') := by
        intro b hb he
        obtain ⟨c', h1, h2⟩ := loop34 t ch i j s ht hi hj hla n (k + 1) b (by omega)
        exact ⟨c', hsplit b c' (by simp [hb]) h1, he.trans h2⟩
      have hx : ∃ x, (arR o i).getD k 0 = x := ⟨_, rfl⟩
      have hy : ∃ y, (arR o j).getD k 0 = y := ⟨_, rfl⟩
      obtain ⟨x, hx⟩ := hx
      obtain ⟨y, hy⟩ := hy
      rw [hx, hy] at hgo
      have base := Tryd.m10_34_eq o t ch (I i) (I j) s true (I k)
      simp only [I_lt hi, I_lt hj, I_nn, I_nat, I_s, e1, e2, hx, hy, I_lt hk, I_lt hk2, I_in hk (show (arR o i).length < 1000000 by omega), and_self, decide_true, if_true] at base
      by_cases c1 : x < 0
      · simp only [c1, decide_true, if_true] at base
        exact hgo _ (by unfold EqA; rw [if_pos (.inl c1), decide_eq_true_eq]) base
      by_cases c2 : y < 0
      · simp only [c1, c2, decide_true, decide_false, Bool.false_eq_true, if_false, if_true] at base
        exact hgo _ (by unfold EqA; rw [if_pos (.inr (.inl c2)), decide_eq_true_eq]) base
      by_cases c3 : I t.length ≤ x
      · simp only [c1, c2, c3, decide_true, decide_false, Bool.false_eq_true, if_false, if_true] at base
        exact hgo _ (by unfold EqA; rw [if_pos (.inr (.inr (.inl c3))), decide_eq_true_eq]) base
      by_cases c4 : I t.length ≤ y
      · simp only [c1, c2, c3, c4, decide_true, decide_false, Bool.false_eq_true, if_false, if_true] at base
        exact hgo _ (by unfold EqA; rw [if_pos (.inr (.inr (.inr c4))), decide_eq_true_eq]) base
      have hxl : x.toNat < o.length := by simp only [I_eq] at c3; omega
      have hrow := ht.row x.toNat hxl
      have g1 : 0 ≤ x ∧ x < I t.length := by omega
      have g2 : x.toNat < t.length := by omega
      have g3 : x.toNat < t.length ∧ 0 ≤ y ∧ y < I (t.getD x.toNat []).length := ⟨by omega, by omega, by rw [hrow, ← hl]; omega⟩
      have g4 : y.toNat < (t.getD x.toNat []).length := by rw [hrow, ← hl]; simp only [I_eq] at c4; omega
      simp only [c1, c2, c3, c4, g1, g2, g3, g4, and_self, decide_true, decide_false, Bool.and_self, Bool.false_eq_true, if_false, if_true] at base
      exact hgo _ (by unfold EqA; rw [if_neg (by omega)]; rfl) base
/-- A cell. -/
theorem step23 (hn : o.length ≤ 100) (h6 : ∀ x ∈ o, x.args.length ≤ 6) (t : List (List Bool)) (ch : Bool) (i j : Nat) (ht : Tb o.length t) (hi : i < o.length) (hj : j < o.length) :
    ∃ b : Bool, (b = true ↔ gT t i j = false ∧ NewT o t i j) ∧ Tryd.m10_23 o t ch (I i) (I j) = cellR o t ch i j b := by
  have hl := ht.len
  have hri := ht.row i hi
  have hrj := ht.row j hj
  have g1 : I i < I t.length := I_lt (by omega)
  have g2 : i < t.length := by omega
  have g3 : I j < I (t.getD i []).length := I_lt (by omega)
  have g4 : j < (t.getD i []).length := by omega
  have g5 : I j < I t.length := I_lt (by omega)
  have g6 : j < t.length := by omega
  have g7 : I i < I (t.getD j []).length := I_lt (by omega)
  have g8 : i < (t.getD j []).length := by omega
  have base := Tryd.m10_23_eq o t ch (I i) (I j)
  simp only [I_lt hj, I_nn, I_nat, I_s, I_in hj (show o.length < 1000000 by omega), g1, g2, g3, g4, g5, g6, g7, g8, and_self, decide_true, Bool.and_self, if_true] at base
  cases hx : gT t i j with
  | true =>
    rw [show (t.getD i []).getD j false = true from hx, if_pos rfl] at base
    exact ⟨false, by simp, base⟩
  | false =>
    rw [show (t.getD i []).getD j false = false from hx, if_neg (by decide)] at base
    obtain ⟨s, h1, h2⟩ := loop28 o hn t ch i j ht hi hj o.length 0 (gT t j i) (by omega)
    have h2' : Tryd.m10_23 o t ch (I i) (I j) = Tryd.m10_28 o t ch (I i) (I j) s (I o.length) := base.trans h2
    have e1 : (@List.getD Dop.Rno o i Dop.d3).args = arR o i := rfl
    have e2 : (@List.getD Dop.Rno o j Dop.d3).args = arR o j := rfl
    have e3 : (@List.getD Dop.Rno o i Dop.d3).head = hdR o i := rfl
    have e4 : (@List.getD Dop.Rno o j Dop.d3).head = hdR o j := rfl
    have b2 := Tryd.m10_28_eq o t ch (I i) (I j) s (I o.length)
    simp only [I_nlt, I_lt hi, I_lt hj, I_nn, I_nat, I_s, I_in hj (show o.length < 1000000 by omega), g1, g2, g3, g4, e1, e2, e3, e4, and_self, decide_true, decide_false, Bool.and_self, if_true, Bool.false_eq_true, if_false] at b2
    have hs : s = true ↔ gT t j i = true ∨ ∃ k, k < o.length ∧ gT t i k = true ∧ gT t k j = true := by
      rw [h1]
      constructor
      · rintro (h | ⟨k, -, h⟩)
        · exact .inl h
        · exact .inr ⟨k, h⟩
      · rintro (h | ⟨k, h⟩)
        · exact .inl h
        · exact .inr ⟨k, by omega, h⟩
    have hcell : (if s = true then Tryd.m10_23 o (t.set i ((t.getD i []).set j true)) true (I i) (I (j + 1)) else Tryd.m10_23 o t ch (I i) (I (j + 1))) = cellR o t ch i j s := rfl
    by_cases c1 : hdR o i = hdR o j
    · by_cases c2 : I (arR o i).length = I (arR o j).length
      · have c2' : (arR o i).length = (arR o j).length := by simp only [I_eq] at c2; omega
        simp only [c1, c2, decide_true, if_true] at b2
        obtain ⟨c', k1, k2⟩ := loop34 o hn h6 t ch i j s ht hi hj c2' (arR o i).length 0 true (by omega)
        refine ⟨s || c', ?_, h2'.trans (b2.trans k2)⟩
        rw [Bool.or_eq_true, hs, k1]
        unfold NewT
        constructor
        · rintro (h | h)
          · exact ⟨rfl, h.elim .inl (fun h => .inr (.inl h))⟩
          · exact ⟨rfl, .inr (.inr ⟨c1, c2', fun q hq => h.2 q (by omega) hq⟩)⟩
        · rintro ⟨-, h | h | h⟩
          · exact .inl (.inl h)
          · exact .inl (.inr h)
          · exact .inr ⟨rfl, fun q _ hq => h.2.2 q hq⟩
      · simp only [c1, c2, decide_true, decide_false, Bool.false_eq_true, if_false, if_true] at b2
        refine ⟨s, ?_, h2'.trans (b2.trans hcell)⟩
        rw [hs]
        unfold NewT
        constructor
        · intro h
          exact ⟨rfl, h.elim .inl (fun h => .inr (.inl h))⟩
        · rintro ⟨-, h | h | h⟩
          · exact .inl h
          · exact .inr h
          · exact absurd (by rw [h.2.1]) c2
    · simp only [c1, decide_false, Bool.false_eq_true, if_false] at b2
      refine ⟨s, ?_, h2'.trans (b2.trans hcell)⟩
      rw [hs]
      unfold NewT
      constructor
      · intro h
        exact ⟨rfl, h.elim .inl (fun h => .inr (.inl h))⟩
      · rintro ⟨-, h | h | h⟩
        · exact .inl h
        · exact .inr h
        · exact absurd h.1 c1
end
end Go.Proofs.Law
