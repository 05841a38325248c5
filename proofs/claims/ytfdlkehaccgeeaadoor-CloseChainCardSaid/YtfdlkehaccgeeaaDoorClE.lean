/-
  Layer 18, plain: Table, the whole.
-/
import Derived.Test.YtfdlkehaccgeeaaDoorClD
set_option maxHeartbeats 800000
namespace Go.Proofs.Law
open Go Go.En Go.Proofs

theorem map_nod {o : List En.Dop.Rno} {i : Nat} (h : i < o.length) : (o.map nod).getD i Dop.d4 = nod (o.getD i Dop.d3) := by
  simp [List.getD, h]
section
variable (o : List En.Dop.Rno) (p : List En.Dop.Pr)
/-- What nodes must be the same. -/
abbrev CgO : Int → Int → Prop := CgN (o.map nod) p
def Sound (t : List (List Bool)) : Prop := ∀ i j : Nat, i < o.length → j < o.length → gT t i j = true → CgO o p i j
/-- How many cells are not told. -/
def Fl (t : List (List Bool)) : Nat := cnt2 (gT t) o.length o.length
variable {o p}
theorem new_sound {t : List (List Bool)} (ht : Tb o.length t) (h : Sound o p t) {i j : Nat} (hi : i < o.length) (hj : j < o.length) (hn : NewT o t i j) : CgO o p i j := by
  rcases hn with hn | ⟨k, hk, h1, h2⟩ | ⟨h1, h2, h3⟩
  · exact (h j i hj hi hn).symm
  · exact (h i k hi hk h1).trans (h k j hk hj h2)
  · have ai : arN (o.map nod) i = arR o i := by unfold arN; rw [map_nod hi]; rfl
    have aj : arN (o.map nod) j = arR o j := by unfold arN; rw [map_nod hj]; rfl
    refine .cong i j (by simpa using hi) (by simpa using hj) ?_ (by rw [ai, aj]; exact h2) (fun q hq => ?_)
    · unfold hdN; rw [map_nod hi, map_nod hj]; exact h1
    · rw [ai] at hq ⊢; rw [aj]
      have := h3 q hq
      unfold EqA at this
      split at this
      · rw [this]; exact .refl _
      · rename_i c
        have hl := ht.len
        simp only [I_eq] at c
        have := h _ _ (by omega) (by omega) this
        rwa [show (((arR o i).getD q 0).toNat : Int) = (arR o i).getD q 0 by omega, show (((arR o j).getD q 0).toNat : Int) = (arR o j).getD q 0 by omega] at this
theorem Sound.set {t : List (List Bool)} (ht : Tb o.length t) (h : Sound o p t) {i j : Nat} (hi : i < o.length) (hj : j < o.length) (hc : CgO o p i j) : Sound o p (sT t i j) := fun a b ha hb x => by
  rw [gT_set ht hi hj] at x
  split at x
  · rename_i c; rw [c.1, c.2]; exact hc
  · exact h a b ha hb x
theorem LeT.fl {t t' : List (List Bool)} (h : LeT t t') : Fl o t' ≤ Fl o t := cnt2_le h _ _
variable (hn : o.length ≤ 100) (h6 : ∀ x ∈ o, x.args.length ≤ 6)
include hn h6
theorem row_loop (i : Nat) (hi : i < o.length) : ∀ (n j : Nat) (t : List (List Bool)) (ch : Bool), j + n = o.length → Tb o.length t → Sound o p t →
    ∃ t' ch', Tb o.length t' ∧ Sound o p t' ∧ LeT t t' ∧ (ch' = true → ch = true ∨ Fl o t' < Fl o t) ∧ (ch' = false → ch = false ∧ t' = t ∧ ∀ j', j ≤ j' → j' < o.length → NewT o t i j' → gT t i j' = true) ∧ Tryd.m10_23 o t ch (I i) (I j) = Tryd.m10_20 o t' ch' (I (i + 1))
  | 0, j, t, ch, e, ht, hs => by
    have e : j = o.length := by omega
    subst e
    refine ⟨t, ch, ht, hs, .refl t, .inl, fun h => ⟨h, rfl, fun j' h1 h2 => by omega⟩, ?_⟩
    rw [Tryd.m10_23_eq]
    simp only [I_nlt, I_s, I_in hi (show o.length < 1000000 by omega), decide_false, Bool.false_eq_true, if_false, if_true]
  | n + 1, j, t, ch, e, ht, hs => by
    have hj : j < o.length := by omega
    obtain ⟨b, hb, he⟩ := step23 o hn h6 t ch i j ht hi hj
    cases b with
    | true =>
      obtain ⟨b1, b2⟩ := hb.1 rfl
      have hle := LeT.set ht hi hj
      have hlt : Fl o (sT t i j) < Fl o t := cnt2_lt hle hj b1 (by rw [gT_set ht hi hj]; simp) _ hi
      obtain ⟨t', ch', r1, r2, r3, r4, r5, r6⟩ := row_loop i hi n (j + 1) (sT t i j) true (by omega) (ht.set hi) (hs.set ht hi hj (new_sound ht hs hi hj b2))
      refine ⟨t', ch', r1, r2, hle.trans r3, fun _ => .inr ?_, fun h => ?_, he.trans r6⟩
      · have := r3.fl (o := o); omega
      · have := (r5 h).1; cases this
    | false =>
      obtain ⟨t', ch', r1, r2, r3, r4, r5, r6⟩ := row_loop i hi n (j + 1) t ch (by omega) ht hs
      refine ⟨t', ch', r1, r2, r3, r4, fun h => ?_, he.trans r6⟩
      obtain ⟨k1, k2, k3⟩ := r5 h
      refine ⟨k1, k2, fun j' h1 h2 h3 => ?_⟩
      by_cases e : j' = j
      · subst e
        cases hx : gT t i j' with
        | true => rfl
        | false => exact absurd (hb.2 ⟨hx, h3⟩) (by decide)
      · exact k3 j' (by omega) h2 h3
theorem tab_round : ∀ (n i : Nat) (t : List (List Bool)) (ch : Bool), i + n = o.length → Tb o.length t → Sound o p t →
    ∃ t' ch', Tb o.length t' ∧ Sound o p t' ∧ LeT t t' ∧ (ch' = true → ch = true ∨ Fl o t' < Fl o t) ∧ (ch' = false → ch = false ∧ t' = t ∧ ∀ i' j', i ≤ i' → i' < o.length → j' < o.length → NewT o t i' j' → gT t i' j' = true) ∧ Tryd.m10_20 o t ch (I i) = Tryd.m10_17 o t' ch'
  | 0, i, t, ch, e, ht, hs => by
    have e : i = o.length := by omega
    subst e
    refine ⟨t, ch, ht, hs, .refl t, .inl, fun h => ⟨h, rfl, fun i' j' h1 h2 => by omega⟩, ?_⟩
    rw [Tryd.m10_20_eq]
    simp only [I_nlt, decide_false, Bool.false_eq_true, if_false]
  | n + 1, i, t, ch, e, ht, hs => by
    have hi : i < o.length := by omega
    obtain ⟨t1, c1, q1, q2, q3, q4, q5, q6⟩ := row_loop (p := p) hn h6 i hi o.length 0 t ch (by omega) ht hs
    obtain ⟨t', ch', r1, r2, r3, r4, r5, r6⟩ := tab_round n (i + 1) t1 c1 (by omega) q1 q2
    have e0 : I 0 = 0 := rfl
    rw [e0] at q6
    refine ⟨t', ch', r1, r2, q3.trans r3, fun h => ?_, fun h => ?_, ?_⟩
    · have f1 := q3.fl (o := o)
      have f2 := r3.fl (o := o)
      rcases r4 h with h | h
      · rcases q4 h with h | h
        · exact .inl h
        · exact .inr (by omega)
      · exact .inr (by omega)
    · obtain ⟨k1, k2, k3⟩ := r5 h
      obtain ⟨l1, l2, l3⟩ := q5 k1
      subst l2
      refine ⟨l1, k2, fun i' j' h1 h2 h3 h4 => ?_⟩
      by_cases e : i' = i
      · subst e; exact l3 j' (by omega) h3 h4
      · exact k3 i' j' (by omega) h2 h3 h4
    · rw [Tryd.m10_20_eq]
      simp only [I_lt hi, decide_true, if_true]
      exact q6.trans r6
theorem tab_rounds : ∀ (n : Nat) (t : List (List Bool)), Fl o t ≤ n → Tb o.length t → Sound o p t →
    ∃ t', Tb o.length t' ∧ Sound o p t' ∧ LeT t t' ∧ (∀ i' j', i' < o.length → j' < o.length → NewT o t' i' j' → gT t' i' j' = true) ∧ Tryd.m10_17 o t true = some ((t', ()), ()) := by
  intro n
  induction n with
  | zero =>
    intro t hf ht hs
    obtain ⟨t', ch', r1, r2, r3, r4, r5, r6⟩ := tab_round (p := p) hn h6 o.length 0 t false (by omega) ht hs
    have e0 : I 0 = 0 := rfl
    rw [e0] at r6
    have hch : ch' = false := by
      cases ch' with
      | false => rfl
      | true => exact (r4 rfl).elim (fun h => by cases h) (fun h => absurd h (by omega))
    subst hch
    obtain ⟨k1, k2, k3⟩ := r5 rfl
    subst k2
    refine ⟨t', r1, r2, r3, fun i' j' h1 h2 => k3 i' j' (by omega) h1 h2, ?_⟩
    rw [Tryd.m10_17_eq, if_pos rfl, r6, Tryd.m10_17_eq, if_neg (by decide)]
  | succ n ih =>
    intro t hf ht hs
    obtain ⟨t', ch', r1, r2, r3, r4, r5, r6⟩ := tab_round (p := p) hn h6 o.length 0 t false (by omega) ht hs
    have e0 : I 0 = 0 := rfl
    rw [e0] at r6
    cases ch' with
    | false =>
      obtain ⟨k1, k2, k3⟩ := r5 rfl
      subst k2
      refine ⟨t', r1, r2, r3, fun i' j' h1 h2 => k3 i' j' (by omega) h1 h2, ?_⟩
      rw [Tryd.m10_17_eq, if_pos rfl, r6, Tryd.m10_17_eq, if_neg (by decide)]
    | true =>
      have hlt : Fl o t' < Fl o t := (r4 rfl).elim (fun h => by cases h) id
      obtain ⟨t2, q1, q2, q3, q4, q5⟩ := ih t' (by omega) r1 r2
      refine ⟨t2, q1, q2, r3.trans q3, q4, ?_⟩
      rw [Tryd.m10_17_eq, if_pos rfl, r6, q5]
omit h6 in
/-- First, each is the same as itself. -/
theorem tab_init : ∀ (n k : Nat) (t : List (List Bool)), k + n = o.length → t.length = k → (∀ i, i < k → (t.getD i []).length = o.length ∧ ∀ j, j < o.length → gT t i j = decide (i = j)) →
    ∃ t', Tb o.length t' ∧ (∀ i j, i < o.length → j < o.length → gT t' i j = decide (i = j)) ∧ Tryd.m10_3 o p t (I k) = Tryd.m10_9 o p t' 0
  | 0, k, t, e, hl, hr => by
    have e : k = o.length := by omega
    subst e
    refine ⟨t, ⟨hl, fun i hi => (hr i hi).1⟩, fun i j hi hj => (hr i hi).2 j hj, ?_⟩
    rw [Tryd.m10_3_eq]
    simp only [I_nlt, decide_false, Bool.false_eq_true, if_false]
  | n + 1, k, t, e, hl, hr => by
    have hk : k < o.length := by omega
    have hget : ∀ (i : Nat) (r : List Bool), (t ++ [r]).getD i [] = if i < k then t.getD i [] else if i = k then r else [] := by
      intro i r
      simp only [List.getD, List.getElem?_append, hl]
      by_cases c : i < k
      · rw [if_pos c, if_pos c]
      · rw [if_neg c, if_neg c]
        by_cases c2 : i = k
        · subst c2; rw [if_pos rfl]; simp
        · rw [if_neg c2]
          rw [List.getElem?_eq_none (by simp only [List.length_cons, List.length_nil]; omega)]; rfl
    obtain ⟨t', r1, r2, r3⟩ := tab_init n (k + 1) (t ++ [(List.replicate o.length false).set k true]) (by omega) (by simp [hl]) (fun i hi => by
      unfold gT
      rw [hget]
      by_cases c : i < k
      · rw [if_pos c]; exact hr i c
      · have e : i = k := by omega
        subst e
        rw [if_neg c, if_pos rfl]
        refine ⟨by simp, fun j hj => ?_⟩
        rw [getD_setG]
        by_cases e : i = j
        · subst e; simp [hj]
        · rw [if_neg (fun c => e c.1)]; simp [e, List.getD, hj])
    refine ⟨t', r1, r2, ?_⟩
    have h0 : 0 ≤ I o.length ∧ I o.length ≤ I o.length ∧ I o.length * I (1 + 1) ≤ 140737488355328 := by simp only [I_eq]; omega
    have hro : ∀ y : List Bool, room 24 (t.length + [y].length) = true := fun y => room_s _ _ (by simp only [List.length_cons, List.length_nil]; omega)
    rw [Tryd.m10_3_eq]
    simp only [I_lt hk, hk, I_nn, I_nat, I_s, h0, hro, List.length_replicate, I_in hk (show o.length < 1000000 by omega), and_self, decide_true, if_true]
    exact r3
omit hn h6 in
theorem tab_pairs (hp : p.length < 1000000) : ∀ (n k : Nat) (t : List (List Bool)), k + n = p.length → Tb o.length t → Sound o p t → (∀ j, j < k → 0 ≤ (p.getD j Dop.d5).x0 → (p.getD j Dop.d5).x0 < I o.length → 0 ≤ (p.getD j Dop.d5).x1 → (p.getD j Dop.d5).x1 < I o.length → gT t (p.getD j Dop.d5).x0.toNat (p.getD j Dop.d5).x1.toNat = true) →
    ∃ t', Tb o.length t' ∧ Sound o p t' ∧ LeT t t' ∧ (∀ j, j < p.length → 0 ≤ (p.getD j Dop.d5).x0 → (p.getD j Dop.d5).x0 < I o.length → 0 ≤ (p.getD j Dop.d5).x1 → (p.getD j Dop.d5).x1 < I o.length → gT t' (p.getD j Dop.d5).x0.toNat (p.getD j Dop.d5).x1.toNat = true) ∧ Tryd.m10_9 o p t (I k) = Tryd.m10_17 o t' true
  | 0, k, t, e, ht, hs, hr => by
    have e : k = p.length := by omega
    subst e
    refine ⟨t, ht, hs, .refl t, hr, ?_⟩
    rw [Tryd.m10_9_eq]
    simp only [I_nlt, decide_false, Bool.false_eq_true, if_false]
  | n + 1, k, t, e, ht, hs, hr => by
    have hk : k < p.length := by omega
    have hl := ht.len
    have hgo : ∀ t2, Tb o.length t2 → Sound o p t2 → LeT t t2 → (0 ≤ (p.getD k Dop.d5).x0 → (p.getD k Dop.d5).x0 < I o.length → 0 ≤ (p.getD k Dop.d5).x1 → (p.getD k Dop.d5).x1 < I o.length → gT t2 (p.getD k Dop.d5).x0.toNat (p.getD k Dop.d5).x1.toNat = true) → Tryd.m10_9 o p t (I k) = Tryd.m10_9 o p t2 (I (k + 1)) →
        ∃ t', Tb o.length t' ∧ Sound o p t' ∧ LeT t t' ∧ (∀ j, j < p.length → 0 ≤ (p.getD j Dop.d5).x0 → (p.getD j Dop.d5).x0 < I o.length → 0 ≤ (p.getD j Dop.d5).x1 → (p.getD j Dop.d5).x1 < I o.length → gT t' (p.getD j Dop.d5).x0.toNat (p.getD j Dop.d5).x1.toNat = true) ∧ Tryd.m10_9 o p t (I k) = Tryd.m10_17 o t' true := by
      intro t2 a1 a2 a3 a4 a5
      obtain ⟨t', r1, r2, r3, r4, r5⟩ := tab_pairs hp n (k + 1) t2 (by omega) a1 a2 (fun j hj b1 b2 b3 b4 => by
        by_cases e : j = k
        · subst e; exact a4 b1 b2 b3 b4
        · exact a3 _ _ (hr j (by omega) b1 b2 b3 b4))
      exact ⟨t', r1, r2, a3.trans r3, r4, a5.trans r5⟩
    have base := Tryd.m10_9_eq o p t (I k)
    have z0 : (0 : Int) ≤ 0 ∧ (0 : Int) < I 2 := by decide
    have z1 : (0 : Int) ≤ 1 ∧ (1 : Int) < I 2 := by decide
    have hmem : p.getD k Dop.d5 ∈ p := by simp [List.getD, hk]
    obtain ⟨q, hq⟩ : ∃ q, p.getD k Dop.d5 = q := ⟨_, rfl⟩
    rw [hq] at hgo hmem
    simp only [I_lt hk, I_nn, I_nat, I_s, I_in hk hp, z0, z1, hq, and_self, decide_true, if_true] at base
    by_cases c1 : 0 ≤ q.x0
    rotate_left
    · simp only [c1, decide_false, Bool.false_eq_true, if_false] at base
      exact hgo t ht hs (.refl t) (fun h => absurd h c1) base
    by_cases c2 : 0 ≤ q.x1
    rotate_left
    · simp only [c1, c2, decide_true, decide_false, Bool.false_eq_true, if_false, if_true] at base
      exact hgo t ht hs (.refl t) (fun _ _ h => absurd h c2) base
    by_cases c3 : q.x0 < I o.length
    rotate_left
    · simp only [c1, c2, c3, decide_true, decide_false, Bool.false_eq_true, if_false, if_true] at base
      exact hgo t ht hs (.refl t) (fun _ h => absurd h c3) base
    by_cases c4 : q.x1 < I o.length
    rotate_left
    · simp only [c1, c2, c3, c4, decide_true, decide_false, Bool.false_eq_true, if_false, if_true] at base
      exact hgo t ht hs (.refl t) (fun _ _ _ h => absurd h c4) base
    obtain ⟨a, ha⟩ : ∃ a, q.x0.toNat = a := ⟨_, rfl⟩
    obtain ⟨b, hb⟩ : ∃ b, q.x1.toNat = b := ⟨_, rfl⟩
    have qa : q.x0 = I a := by simp only [I_eq]; omega
    have qb : q.x1 = I b := by simp only [I_eq]; omega
    have la : a < o.length := by simp only [I_eq] at c3; omega
    have lb : b < o.length := by simp only [I_eq] at c4; omega
    have ht1 := ht.set (b := b) la
    have hra := ht.row a la
    have hrb := ht1.row b lb
    have hl1 := ht1.len
    have g1 : I a < I t.length := I_lt (by omega)
    have g2 : a < t.length := by omega
    have g3 : I b < I (t.getD a []).length := I_lt (by omega)
    have g4 : b < (t.getD a []).length := by omega
    have g5 : I b < I (sT t a b).length := I_lt (by omega)
    have g6 : b < (sT t a b).length := by omega
    have g7 : I a < I ((sT t a b).getD b []).length := I_lt (by omega)
    have g8 : a < ((sT t a b).getD b []).length := by omega
    have hss : t.set a ((t.getD a []).set b true) = sT t a b := rfl
    simp only [qa, qb, I_nn, I_nat, I_lt la, I_lt lb, g1, g2, g3, g4, hss, g5, g6, g7, g8, and_self, decide_true, if_true] at base
    have hc : CgO o p (a : Int) (b : Int) := by
      have hm : (q.x0, q.x1) ∈ prs p := List.mem_map.2 ⟨q, hmem, rfl⟩
      rw [qa, qb] at hm
      refine .pair hm (by omega) ?_ (by omega) ?_ <;> simp only [List.length_map] <;> omega
    refine hgo (sT (sT t a b) b a) (ht1.set lb) ((hs.set ht la lb hc).set ht1 lb la hc.symm) ((LeT.set ht la lb).trans (LeT.set ht1 lb la)) (fun _ _ _ _ => ?_) base
    rw [ha, hb]
    exact LeT.set ht1 lb la _ _ (by rw [gT_set ht la lb]; simp)
/-- TABLE. -/
theorem table_v (hp : p.length < 1000000) : ∃ t, Tryd.m10 o p = some ((t, ()), ()) ∧ Tb o.length t ∧ ∀ i j : Nat, i < o.length → j < o.length → (gT t i j = true ↔ CgO o p i j) := by
  obtain ⟨t0, a1, a2, a3⟩ := tab_init (p := p) hn o.length 0 [] (by omega) rfl (fun i h => by omega)
  have hs0 : Sound o p t0 := fun i j hi hj h => by
    rw [a2 i j hi hj, decide_eq_true_eq] at h
    subst h; exact .refl _
  obtain ⟨t1, b1, b2, b3, b4, b5⟩ := tab_pairs hp p.length 0 t0 (by omega) a1 hs0 (fun j h => by omega)
  obtain ⟨t, c1, c2, c3, c4, c5⟩ := tab_rounds hn h6 _ t1 (Nat.le_refl _) b1 b2
  refine ⟨t, ?_, c1, fun i j hi hj => ⟨c2 i j hi hj, fun h => ?_⟩⟩
  · have e0 : I 0 = 0 := rfl
    rw [e0] at a3 b5
    rw [Tryd.m10_eq, a3, b5, c5]
  · have hdiag : ∀ i, i < o.length → gT t i i = true := fun i hi => c3 _ _ (b3 _ _ (by rw [a2 i i hi hi]; simp))
    have hR : (i : Int) = j ∨ (0 ≤ (i : Int) ∧ (i : Int) < o.length ∧ 0 ≤ (j : Int) ∧ (j : Int) < o.length ∧ gT t (i : Int).toNat (j : Int).toNat = true) := by
      refine Cg.least (R := fun a b => a = b ∨ (0 ≤ a ∧ a < o.length ∧ 0 ≤ b ∧ b < o.length ∧ gT t a.toNat b.toNat = true)) (fun _ => .inl rfl) (fun a b h => ?_) (fun a b c h h' => ?_) (fun a b hm a1 a2 a3 a4 => ?_) (fun i j h1 h2 h3 h4 h5 => ?_) h
      · rcases h with h | ⟨h1, h2, h3, h4, h5⟩
        · exact .inl h.symm
        · exact .inr ⟨h3, h4, h1, h2, c4 _ _ (by omega) (by omega) (.inl h5)⟩
      · rcases h with h | ⟨h1, h2, h3, h4, h5⟩
        · subst h; exact h'
        · rcases h' with h' | ⟨k1, k2, k3, k4, k5⟩
          · subst h'; exact .inr ⟨h1, h2, h3, h4, h5⟩
          · exact .inr ⟨h1, h2, k3, k4, c4 _ _ (by omega) (by omega) (.inr (.inl ⟨_, by omega, h5, k5⟩))⟩
      · simp only [List.length_map] at a2 a4
        obtain ⟨q, hq, e⟩ := List.mem_map.1 hm
        obtain ⟨m, hml, hq'⟩ := List.getElem_of_mem hq
        have hg : p.getD m Dop.d5 = q := by simp [List.getD, hml, hq']
        simp only [Prod.mk.injEq] at e
        obtain ⟨rfl, rfl⟩ := e
        have := b4 m hml
        rw [hg] at this
        exact .inr ⟨a1, a2, a3, a4, c3 _ _ (this a1 a2 a3 a4)⟩
      · simp only [List.length_map] at h1 h2
        have ai : arN (o.map nod) i = arR o i := by unfold arN; rw [map_nod h1]; rfl
        have aj : arN (o.map nod) j = arR o j := by unfold arN; rw [map_nod h2]; rfl
        rw [ai, aj] at h4
        rw [ai, aj] at h5
        unfold hdN at h3
        rw [map_nod h1, map_nod h2] at h3
        refine .inr ⟨by omega, by omega, by omega, by omega, ?_⟩
        rw [Int.toNat_natCast, Int.toNat_natCast]
        refine c4 i j h1 h2 (.inr (.inr ⟨h3, h4, fun q hq => ?_⟩))
        unfold EqA
        have hl := c1.len
        split
        · rename_i c
          simp only [I_eq] at c
          rcases h5 q hq with h | h
          · exact h
          · omega
        · rename_i c
          simp only [I_eq] at c
          rcases h5 q hq with h | h
          · rw [h]; exact hdiag _ (by omega)
          · exact h.2.2.2.2
    rcases hR with h | h
    · have : i = j := by omega
      subst this; exact hdiag i hi
    · have := h.2.2.2.2
      rwa [Int.toNat_natCast, Int.toNat_natCast] at this
end
end Go.Proofs.Law
