/-
  Layer 18, plain: Classes tells for each node the least one that it is the same as.
-/
import Derived.Test.YtfdlkehaccgeeaaDoorClA
set_option maxHeartbeats 800000
namespace Go.Proofs.Law
open Go Go.En Go.Proofs

def hdN (l : List En.Dop.Nod) (i : Nat) : List UInt8 := (l.getD i Dop.d4).head
def arN (l : List En.Dop.Nod) (i : Nat) : List Int := (l.getD i Dop.d4).args
def prs (p : List En.Dop.Pr) : List (Int × Int) := p.map fun x => (x.x0, x.x1)
/-- What nodes must be the same, by pairs. -/
def CgN (l : List En.Dop.Nod) (p : List En.Dop.Pr) : Int → Int → Prop := Cg l.length (hdN l) (arN l) (prs p)
/-- What is known of a forest. -/
structure Up (l : List En.Dop.Nod) (p : List En.Dop.Pr) (up : List Int) : Prop where
  len : up.length = l.length
  fo : Fo up
  sound : ∀ i : Nat, i < l.length → CgN l p i (root up i)
theorem Up.sound' {l : List En.Dop.Nod} {p : List En.Dop.Pr} {up : List Int} (h : Up l p up) (a : Int) : CgN l p a (root up a) := by
  by_cases c : 0 ≤ a ∧ a < up.length
  · have := h.sound a.toNat (by have := h.len; omega)
    rwa [show ((a.toNat : Nat) : Int) = a by omega] at this
  · rw [root_out c]; exact .refl _
/-- More is the same. -/
def Merges (up up' : List Int) : Prop := ∀ a b, root up a = root up b → root up' a = root up' b
theorem root_lt {up : List Int} (h : Fo up) {a : Int} (h0 : 0 ≤ a) (h1 : a < up.length) : 0 ≤ root up a ∧ root up a < up.length := by
  have := root_rng h h0 h1; omega
/-- Two that must be the same are made so. -/
theorem Up.unite {l : List En.Dop.Nod} {p : List En.Dop.Pr} {up : List Int} (h : Up l p up) {a b : Int} (ha : 0 ≤ a ∧ a < l.length) (hb : 0 ≤ b ∧ b < l.length) (hab : CgN l p a b) (hne : root up a ≠ root up b) :
    Up l p (unite up (root up a) (root up b)) ∧ Merges up (unite up (root up a) (root up b)) ∧ root (unite up (root up a) (root up b)) a = root (unite up (root up a) (root up b)) b ∧ roots (unite up (root up a) (root up b)) < roots up := by
  have hl := h.len
  have ra := root_rng h.fo ha.1 (by omega)
  have rb := root_rng h.fo hb.1 (by omega)
  have xa : 0 ≤ root up a ∧ root up a < up.length := by omega
  have xb : 0 ≤ root up b ∧ root up b < up.length := by omega
  have hu : ∀ c, root (Law.unite up (root up a) (root up b)) c = if root up c = max (root up a) (root up b) then min (root up a) (root up b) else root up c := fun c => unite_root h.fo xa xb ra.2.2 rb.2.2 hne c.toNat c (Nat.le_refl _)
  have hxy : CgN l p (root up a) (root up b) := ((h.sound' a).symm.trans hab).trans (h.sound' b)
  refine ⟨⟨by simp [Law.unite, hl], unite_fo h.fo xa xb, fun i hi => ?_⟩, fun c d e => by rw [hu, hu, e], ?_, roots_unite xa xb ra.2.2 rb.2.2 hne⟩
  · rw [hu]
    split
    · rename_i e
      have hi' := h.sound i hi
      rw [e] at hi'
      rcases Int.le_total (root up a) (root up b) with hle | hle
      · rw [show max (root up a) (root up b) = root up b by omega] at hi'
        rw [show min (root up a) (root up b) = root up a by omega]
        exact hi'.trans hxy.symm
      · rw [show max (root up a) (root up b) = root up a by omega] at hi'
        rw [show min (root up a) (root up b) = root up b by omega]
        exact hi'.trans hxy
    · exact h.sound i hi
  · rw [hu, hu]
    rcases Int.le_total (root up a) (root up b) with hle | hle
    · rw [if_neg (by omega), if_pos (by omega)]; omega
    · rw [if_pos (by omega), if_neg (by omega)]; omega
theorem max_if (x y : Int) : (if x < y then y else x) = max x y := by split <;> omega
theorem min_if (x y : Int) : (if y < x then y else x) = min x y := by split <;> omega
theorem unite_ok {up : List Int} {x y : Int} (hx : 0 ≤ x ∧ x < up.length) (hy : 0 ≤ y ∧ y < up.length) : (0 ≤ max x y ∧ max x y < I up.length) ∧ (max x y).toNat < up.length := by
  simp only [I_eq]; omega

/-! First, none is the same as another one. -/
theorem id_root {up : List Int} (h : ∀ i : Nat, i < up.length → up.getD i 0 = (i : Int)) (a : Int) : root up a = a := by
  by_cases c : 0 ≤ a ∧ a < up.length
  · have := h a.toNat (by omega)
    exact root_self (by omega)
  · exact root_out c
theorem init_loop (l : List En.Dop.Nod) (p : List En.Dop.Pr) (hl : l.length < 1000000) : ∀ (n k : Nat) (up : List Int), k + n = l.length → up.length = l.length → (∀ i : Nat, i < k → up.getD i 0 = (i : Int)) →
    ∃ r : List Int, r.length = l.length ∧ (∀ i : Nat, i < l.length → r.getD i 0 = (i : Int)) ∧ Tryd.m11_3 p up (I l.length) (I k) l = Tryd.m11_9 r p (I p.length) 0 l
  | 0, k, up, e, hu, hi => by
    have e : k = l.length := by omega
    subst e
    refine ⟨up, hu, hi, ?_⟩
    rw [Tryd.m11_3_eq]
    simp only [I_nlt, decide_false, Bool.false_eq_true, if_false]
  | n + 1, k, up, e, hu, hi => by
    have hk : k < l.length := by omega
    have hk2 : k < up.length := by omega
    obtain ⟨r, r1, r2, r3⟩ := init_loop l p hl n (k + 1) (up.set k (I k)) (by omega) (by simpa using hu) (fun i h => by
      rw [getD_set]
      split
      · rename_i c; simp only [I_eq]; omega
      · exact hi i (by omega))
    refine ⟨r, r1, r2, ?_⟩
    rw [Tryd.m11_3_eq]
    simp only [I_lt hk, I_lt hk2, hk2, I_nn, I_nat, I_s, I_in hk hl, and_self, decide_true, if_true]
    exact r3
/-- The pairs. -/
theorem pair_loop (l : List En.Dop.Nod) (p : List En.Dop.Pr) (hp : p.length < 1000000) : ∀ (n k : Nat) (up : List Int), k + n = p.length → Up l p up → (∀ j, j < k → 0 ≤ (p.getD j Dop.d5).x0 ∧ (p.getD j Dop.d5).x0 < l.length ∧ 0 ≤ (p.getD j Dop.d5).x1 ∧ (p.getD j Dop.d5).x1 < l.length → root up (p.getD j Dop.d5).x0 = root up (p.getD j Dop.d5).x1) →
    ∃ r : List Int, Up l p r ∧ (∀ j, j < p.length → 0 ≤ (p.getD j Dop.d5).x0 ∧ (p.getD j Dop.d5).x0 < l.length ∧ 0 ≤ (p.getD j Dop.d5).x1 ∧ (p.getD j Dop.d5).x1 < l.length → root r (p.getD j Dop.d5).x0 = root r (p.getD j Dop.d5).x1) ∧ Tryd.m11_9 up p (I p.length) (I k) l = Tryd.m11_14 r l
  | 0, k, up, e, hu, hi => by
    have e : k = p.length := by omega
    subst e
    refine ⟨up, hu, hi, ?_⟩
    rw [Tryd.m11_9_eq]
    simp only [I_nlt, decide_false, Bool.false_eq_true, if_false]
  | n + 1, k, up, e, hu, hi => by
    have hk : k < p.length := by omega
    have hm : p.getD k Dop.d5 ∈ p := by simp [List.getD, hk]
    have i2 : (0 : Int) < I 2 ∧ (1 : Int) < I 2 := by simp only [I_eq]; omega
    have ll : I up.length = I l.length := by rw [hu.len]
    have h00 : (0 : Int) ≤ 0 := Int.le_refl 0
    have h01 : (0 : Int) ≤ 1 := by omega
    rw [Tryd.m11_9_eq]
    simp only [I_lt hk, I_nn, I_nat, I_s, I_in hk hp, i2, h00, h01, and_self, decide_true, if_true, in_v, Option.bind]
    generalize hq : p.getD k Dop.d5 = q at hm
    have next : ∀ up', Up l p up' → Merges up up' → (0 ≤ q.x0 ∧ q.x0 < l.length ∧ 0 ≤ q.x1 ∧ q.x1 < l.length → root up' q.x0 = root up' q.x1) →
        ∃ r : List Int, Up l p r ∧ (∀ j, j < p.length → 0 ≤ (p.getD j Dop.d5).x0 ∧ (p.getD j Dop.d5).x0 < l.length ∧ 0 ≤ (p.getD j Dop.d5).x1 ∧ (p.getD j Dop.d5).x1 < l.length → root r (p.getD j Dop.d5).x0 = root r (p.getD j Dop.d5).x1) ∧ Tryd.m11_9 up' p (I p.length) (I (k + 1)) l = Tryd.m11_14 r l := fun up' hu' hmg hq' =>
      pair_loop l p hp n (k + 1) up' (by omega) hu' fun j hj hin => by
        by_cases ej : j = k
        · subst ej; rw [hq] at hin ⊢; exact hq' hin
        · exact hmg _ _ (hi j (by omega) hin)
    by_cases c1 : 0 ≤ q.x0 ∧ q.x0 < I l.length
    · simp only [c1, and_self, decide_true, if_true]
      by_cases c2 : 0 ≤ q.x1 ∧ q.x1 < I l.length
      · have d1 : 0 ≤ q.x0 ∧ q.x0 < l.length := by simpa only [I_eq] using c1
        have d2 : 0 ≤ q.x1 ∧ q.x1 < l.length := by simpa only [I_eq] using c2
        simp only [c2, and_self, decide_true, if_true, root_v up hu.fo]
        by_cases c3 : root up q.x0 = root up q.x1
        · simp only [c3, decide_true, if_true]
          exact next up hu (fun _ _ h => h) (fun _ => c3)
        · have hcg : CgN l p q.x0 q.x1 := .pair (List.mem_map.2 ⟨q, hm, rfl⟩) d1.1 d1.2 d2.1 d2.2
          obtain ⟨u1, u2, u3, -⟩ := hu.unite d1 d2 hcg c3
          have hlen := hu.len
          have x0 := root_lt hu.fo d1.1 (by omega)
          have x1 := root_lt hu.fo d2.1 (by omega)
          obtain ⟨o1, o2⟩ := unite_ok x0 x1
          simp only [c3, decide_false, Bool.false_eq_true, if_false, max_if, min_if, o1, o2, and_self, decide_true, if_true]
          exact next _ u1 u2 (fun _ => u3)
      · simp only [c2, decide_false, Bool.false_eq_true, if_false]
        exact next up hu (fun _ _ h => h) (fun h => absurd ⟨h.2.2.1, by simpa only [I_eq] using h.2.2.2⟩ c2)
    · simp only [c1, decide_false, Bool.false_eq_true, if_false]
      exact next up hu (fun _ _ h => h) (fun h => absurd ⟨h.1, by simpa only [I_eq] using h.2.1⟩ c1)

/-! Rounds. -/
theorem map_getD (f : Int → Int) {s : List Int} {q : Nat} (h : q < s.length) : (s.map f).getD q 0 = f (s.getD q 0) := by simp [List.getD, h]
theorem look_cons {α : Type} (k k' : List UInt8) (v : α) (r : List (List UInt8 × α)) : mlookS ((k, v) :: r) k' = if k' = k then some v else mlookS r k' := by
  show (match decide (k' = k) with | true => some v | false => mlookS r k') = _
  by_cases h : k' = k <;> simp [h]
theorem put_cons {α : Type} (k k' : List UInt8) (v v' : α) (r : List (List UInt8 × α)) : mputS ((k, v) :: r) k' v' = if k' = k then (k', v') :: r else (k, v) :: mputS r k' v' := by
  show (match decide (k' = k) with | true => (k', v') :: r | false => (k, v) :: mputS r k' v') = _
  by_cases h : k' = k <;> simp [h]
theorem look_put {α : Type} (k k' : List UInt8) (v : α) : ∀ (b : List (List UInt8 × α)), mlookS (mputS b k v) k' = if k' = k then some v else mlookS b k'
  | [] => look_cons k k' v []
  | (y, w) :: r => by
    have ih := look_put k k' v r
    rw [put_cons]
    by_cases h : k = y
    · subst h
      rw [if_pos rfl, look_cons, look_cons]
      by_cases h2 : k' = k <;> simp only [h2, if_true, if_false]
    · rw [if_neg h, look_cons, look_cons, ih]
      by_cases h2 : k' = y
      · have h3 : ¬ y = k := fun e => h e.symm
        subst h2
        simp only [h3, if_true, if_false]
      · simp only [h2, if_false]
/-- What the map of a round says is so. -/
def First (l : List En.Dop.Nod) (p : List En.Dop.Pr) (f : List (List UInt8 × Int)) (k : Nat) : Prop :=
  ∀ key m, mlookS f key = some m → ∃ j : Nat, m = (j : Int) ∧ j < k ∧ ∃ rs : List Int, key = quoteL Lib.goPrintTabs (hdN l j) ++ numsL 32 rs ∧ rs.length = (arN l j).length ∧ ∀ q, q < rs.length → CgN l p ((arN l j).getD q 0) (rs.getD q 0)
/-- Nodes of one key have one root, so far. -/
def Seen (l : List En.Dop.Nod) (up : List Int) (f : List (List UInt8 × Int)) (k : Nat) : Prop := ∀ i, i < k → ∃ m, mlookS f (keyL (l.getD i Dop.d4) up) = some m ∧ root up m = root up (i : Int)
abbrev RC := Spec.D En.Dop.D18 ⟨[.own 0 3], []⟩
theorem round_loop (l : List En.Dop.Nod) (p : List En.Dop.Pr) (hl : l.length < 1000000) (hs : ∀ x ∈ l, SmallN x)
    (F : List Int → Bool → List (List UInt8 × Int) → List En.Dop.Nod → Int → Int → List En.Dop.Nod → Option RC) (fin : List Int → Bool → Option RC)
    (hstep : ∀ (up : List Int) (ch : Bool) (f : List (List UInt8 × Int)) (k : Nat), Up l p up → k < l.length → F up ch f l (I l.length) (I k) l =
      match mlookS f (keyL (l.getD k Dop.d4) up) with
      | some m => if root up m = root up (I k) then F up ch f l (I l.length) (I (k + 1)) l else if (0 ≤ max (root up m) (root up (I k)) ∧ max (root up m) (root up (I k)) < I up.length) ∧ (max (root up m) (root up (I k))).toNat < up.length then F (unite up (root up m) (root up (I k))) true f l (I l.length) (I (k + 1)) l else none
      | none => F up ch (mputS f (keyL (l.getD k Dop.d4) up) (I k)) l (I l.length) (I (k + 1)) l)
    (hend : ∀ up ch f, F up ch f l (I l.length) (I l.length) l = fin up ch) : ∀ (n k : Nat) (up : List Int) (ch : Bool) (f : List (List UInt8 × Int)), k + n = l.length → Up l p up → First l p f k → (ch = false → Seen l up f k) →
    ∃ up' ch' f', Up l p up' ∧ Merges up up' ∧ roots up' ≤ roots up ∧ (ch' = true → ch = true ∨ roots up' < roots up) ∧ (ch' = false → Seen l up' f' l.length) ∧ F up ch f l (I l.length) (I k) l = fin up' ch'
  | 0, k, up, ch, f, e, hu, hf, hseen => by
    have e : k = l.length := by omega
    subst e
    exact ⟨up, ch, f, hu, fun _ _ h => h, Nat.le_refl _, fun h => .inl h, hseen, hend up ch f⟩
  | n + 1, k, up, ch, f, e, hu, hf, hseen => by
    have hk : k < l.length := by omega
    have hlen := hu.len
    have ih := round_loop l p hl hs F fin hstep hend n (k + 1)
    rw [hstep up ch f k hu hk]
    cases hlk : mlookS f (keyL (l.getD k Dop.d4) up) with
    | none =>
      have hk' : ∀ i, i < k → mlookS f (keyL (l.getD i Dop.d4) up) ≠ none → keyL (l.getD i Dop.d4) up ≠ keyL (l.getD k Dop.d4) up := fun i _ h e => h (by rw [e, hlk])
      refine ih up ch (mputS f (keyL (l.getD k Dop.d4) up) (I k)) (by omega) hu (fun key m hm => ?_) (fun hch i hi => ?_)
      · rw [look_put] at hm
        split at hm
        · rename_i ek
          simp only [Option.some.injEq] at hm
          subst hm
          refine ⟨k, rfl, Nat.lt_succ_self _, ((l.getD k Dop.d4).args).map (root up), ek, by simp [arN], fun q hq => ?_⟩
          have hq' : q < (l.getD k Dop.d4).args.length := by simpa using hq
          rw [map_getD _ hq']
          exact hu.sound' _
        · obtain ⟨j, h1, h2, h3⟩ := hf key m hm
          exact ⟨j, h1, by omega, h3⟩
      · rw [look_put]
        by_cases ei : i = k
        · subst ei; exact ⟨I i, by rw [if_pos rfl], rfl⟩
        · obtain ⟨m, h1, h2⟩ := hseen hch i (by omega)
          exact ⟨m, by rw [if_neg (hk' i (by omega) (by rw [h1]; simp))]; exact h1, h2⟩
    | some m =>
      obtain ⟨j, h1, h2, rs, h3, h4, h5⟩ := hf _ _ hlk
      obtain ⟨g1, g2⟩ := key_inj (h1 := (l.getD k Dop.d4).head) (r1 := (l.getD k Dop.d4).args.map (root up)) h3
      have hcg : CgN l p j k := by
        refine .cong j k (by omega) hk g1.symm ?_ fun q hq => ?_
        · rw [← h4, ← g2]; simp [arN]
        · have hq1 : q < rs.length := by omega
          have hq2 : q < (l.getD k Dop.d4).args.length := by rw [← g2] at hq1; simpa using hq1
          have e1 : rs.getD q 0 = root up ((l.getD k Dop.d4).args.getD q 0) := by rw [← g2]; exact map_getD _ hq2
          have := h5 q hq1
          rw [e1] at this
          exact this.trans (hu.sound' _).symm
      subst h1
      simp only
      by_cases c : root up (j : Int) = root up (I k)
      · rw [if_pos c]
        refine ih up ch f (by omega) hu (fun key m hm => ?_) (fun hch i hi => ?_)
        · obtain ⟨j', a1, a2, a3⟩ := hf key m hm; exact ⟨j', a1, by omega, a3⟩
        · by_cases ei : i = k
          · subst ei; exact ⟨j, hlk, c⟩
          · exact hseen hch i (by omega)
      · rw [if_neg c]
        have dj : (0 : Int) ≤ (j : Int) ∧ (j : Int) < l.length := by omega
        have dk : (0 : Int) ≤ I k ∧ I k < l.length := by simp only [I_eq]; omega
        obtain ⟨u1, u2, u3, u4⟩ := hu.unite dj dk hcg c
        have x0 := root_lt hu.fo dj.1 (by omega)
        have x1 := root_lt hu.fo dk.1 (by omega)
        rw [if_pos (unite_ok x0 x1)]
        obtain ⟨up', ch', f', r1, r2, r3, r4, r5, r6⟩ := ih _ true f (by omega) u1 (fun key m hm => by
          obtain ⟨j', a1, a2, a3⟩ := hf key m hm; exact ⟨j', a1, by omega, a3⟩) (fun h => by cases h)
        exact ⟨up', ch', f', r1, fun a b h => r2 a b (u2 a b h), by omega, fun _ => .inr (by omega), r5, r6⟩
end Go.Proofs.Law
