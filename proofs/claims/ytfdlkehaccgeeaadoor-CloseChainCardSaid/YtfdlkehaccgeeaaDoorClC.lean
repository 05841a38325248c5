/-
  Layer 18, plain: Classes, the whole; Same.
-/
import Derived.Test.YtfdlkehaccgeeaaDoorClB
set_option maxHeartbeats 800000
namespace Go.Proofs.Law
open Go Go.En Go.Proofs

theorem look_match {α β : Type} (o : Option α) (f : α → β) (g : β) (z : α) : (if o.isSome = true then f (o.getD z) else g) = match o with | some m => f m | none => g := by
  cases o <;> rfl
/-- The last loop: each node's root. -/
def Done (n : Nat) (up c : List Int) : Prop := c.length = n ∧ ∀ i : Nat, i < n → c.getD i 0 = root up (i : Int)
theorem out_loop (up : List Int) (h : Fo up) (m : Nat) (hm : m < 1000000) : ∀ (n k : Nat) (c : List Int), k + n = m → c.length = m → (∀ i : Nat, i < k → c.getD i 0 = root up (i : Int)) →
    (∃ r, Done m up r ∧ Tryd.m11_28 up c (I m) (I k) = some ((r, ()), ())) ∧ ∃ r, Done m up r ∧ Tryd.m11_100028 up c (I m) (I k) = some ((r, ()), ())
  | 0, k, c, e, hc, hi => by
    have e : k = m := by omega
    subst e
    rw [Tryd.m11_28_eq, Tryd.m11_100028_eq]
    simp only [I_nlt, decide_false, Bool.false_eq_true, if_false]
    exact ⟨⟨c, ⟨hc, hi⟩, rfl⟩, ⟨c, ⟨hc, hi⟩, rfl⟩⟩
  | n + 1, k, c, e, hc, hi => by
    have hk : k < m := by omega
    have hk2 : k < c.length := by omega
    have ih := out_loop up h m hm n (k + 1) (c.set k (root up (I k))) (by omega) (by simpa using hc) (fun i hi2 => by
      rw [getD_set]
      split
      · rename_i c; rw [← c.1]
      · rename_i c2
        exact hi i (by
          apply Classical.byContradiction
          intro hn
          exact c2 ⟨by omega, by omega⟩))
    rw [Tryd.m11_28_eq, Tryd.m11_100028_eq]
    simp only [I_lt hk, I_lt hk2, hk2, I_nn, I_nat, I_s, I_in hk hm, and_self, decide_true, if_true, root_v up h, Option.bind]
    exact ih
section
variable (l : List En.Dop.Nod) (p : List En.Dop.Pr) (hl : l.length ≤ 100) (hs : ∀ x ∈ l, SmallN x)
include hl hs
theorem step17 (up : List Int) (ch : Bool) (f : List (List UInt8 × Int)) (k : Nat) (hu : Up l p up) (hk : k < l.length) : Tryd.m11_17 up ch f l (I l.length) (I k) l =
      match mlookS f (keyL (l.getD k Dop.d4) up) with
      | some m => if root up m = root up (I k) then Tryd.m11_17 up ch f l (I l.length) (I (k + 1)) l else if (0 ≤ max (root up m) (root up (I k)) ∧ max (root up m) (root up (I k)) < I up.length) ∧ (max (root up m) (root up (I k))).toNat < up.length then Tryd.m11_17 (unite up (root up m) (root up (I k))) true f l (I l.length) (I (k + 1)) l else none
      | none => Tryd.m11_17 up ch (mputS f (keyL (l.getD k Dop.d4) up) (I k)) l (I l.length) (I (k + 1)) l := by
  have hm : l.getD k Dop.d4 ∈ l := by simp [List.getD, hk]
  have hlen := hu.len
  rw [Tryd.m11_17_eq]
  simp only [I_lt hk, I_nn, I_nat, I_s, I_in hk (show l.length < 1000000 by omega), and_self, decide_true, if_true, key_v _ up (hs _ hm) hu.fo (by omega), Option.bind, root_v up hu.fo, max_if, min_if]
  generalize mlookS f (keyL (l.getD k Dop.d4) up) = lk
  cases lk with
  | none => rfl
  | some m =>
    simp only [Option.isSome, Option.getD, if_true]
    by_cases c : root up m = root up (I k)
    · simp only [c, decide_true, if_true]
    · simp only [c, decide_false, Bool.false_eq_true, if_false]
      by_cases c1 : 0 ≤ max (root up m) (root up (I k)) ∧ max (root up m) (root up (I k)) < I up.length
      · by_cases c2 : (max (root up m) (root up (I k))).toNat < up.length
        · simp only [c1, c2, and_self, decide_true, if_true]; rfl
        · simp only [c1, c2, and_self, and_false, decide_true, decide_false, Bool.false_eq_true, if_true, if_false]
      · simp only [c1, false_and, decide_false, Bool.false_eq_true, if_false]
theorem step100017 (up : List Int) (ch : Bool) (f : List (List UInt8 × Int)) (k : Nat) (hu : Up l p up) (hk : k < l.length) : Tryd.m11_100017 up ch f l (I l.length) (I k) l =
      match mlookS f (keyL (l.getD k Dop.d4) up) with
      | some m => if root up m = root up (I k) then Tryd.m11_100017 up ch f l (I l.length) (I (k + 1)) l else if (0 ≤ max (root up m) (root up (I k)) ∧ max (root up m) (root up (I k)) < I up.length) ∧ (max (root up m) (root up (I k))).toNat < up.length then Tryd.m11_100017 (unite up (root up m) (root up (I k))) true f l (I l.length) (I (k + 1)) l else none
      | none => Tryd.m11_100017 up ch (mputS f (keyL (l.getD k Dop.d4) up) (I k)) l (I l.length) (I (k + 1)) l := by
  have hm : l.getD k Dop.d4 ∈ l := by simp [List.getD, hk]
  have hlen := hu.len
  rw [Tryd.m11_100017_eq]
  simp only [I_lt hk, I_nn, I_nat, I_s, I_in hk (show l.length < 1000000 by omega), and_self, decide_true, if_true, key_v _ up (hs _ hm) hu.fo (by omega), Option.bind, root_v up hu.fo, max_if, min_if]
  generalize mlookS f (keyL (l.getD k Dop.d4) up) = lk
  cases lk with
  | none => rfl
  | some m =>
    simp only [Option.isSome, Option.getD, if_true]
    by_cases c : root up m = root up (I k)
    · simp only [c, decide_true, if_true]
    · simp only [c, decide_false, Bool.false_eq_true, if_false]
      by_cases c1 : 0 ≤ max (root up m) (root up (I k)) ∧ max (root up m) (root up (I k)) < I up.length
      · by_cases c2 : (max (root up m) (root up (I k))).toNat < up.length
        · simp only [c1, c2, and_self, decide_true, if_true]; rfl
        · simp only [c1, c2, and_self, and_false, decide_true, decide_false, Bool.false_eq_true, if_true, if_false]
      · simp only [c1, false_and, decide_false, Bool.false_eq_true, if_false]
omit hs in
theorem end17 (up : List Int) (ch : Bool) (f : List (List UInt8 × Int)) : Tryd.m11_17 up ch f l (I l.length) (I l.length) l = if ch = true then Tryd.m11_100014 up l else Tryd.m11_28 up (List.replicate l.length 0) (I l.length) (I 0) := by
  have h : 0 ≤ I l.length ∧ I l.length ≤ I l.length ∧ I l.length * (I 8 + 1) ≤ 140737488355328 := by simp only [I_eq]; omega
  rw [Tryd.m11_17_eq]
  simp only [I_nlt, decide_false, Bool.false_eq_true, if_false, h, and_self, decide_true, if_true, I_nat]
  rfl
omit hs in
theorem end100017 (up : List Int) (ch : Bool) (f : List (List UInt8 × Int)) : Tryd.m11_100017 up ch f l (I l.length) (I l.length) l = if ch = true then Tryd.m11_100014 up l else Tryd.m11_100028 up (List.replicate l.length 0) (I l.length) (I 0) := by
  have h : 0 ≤ I l.length ∧ I l.length ≤ I l.length ∧ I l.length * (I 8 + 1) ≤ 140737488355328 := by simp only [I_eq]; omega
  rw [Tryd.m11_100017_eq]
  simp only [I_nlt, decide_false, Bool.false_eq_true, if_false, h, and_self, decide_true, if_true, I_nat]
  rfl
omit hl hs in
theorem seen_closed {up : List Int} {f : List (List UInt8 × Int)} (h : Seen l up f l.length) {i j : Nat} (hi : i < l.length) (hj : j < l.length) (hd : hdN l i = hdN l j) (ha : (arN l i).length = (arN l j).length) (hr : ∀ q, q < (arN l i).length → root up ((arN l i).getD q 0) = root up ((arN l j).getD q 0)) : root up (i : Int) = root up (j : Int) := by
  obtain ⟨m, h1, h2⟩ := h i hi
  obtain ⟨m', h3, h4⟩ := h j hj
  have : keyL (l.getD i Dop.d4) up = keyL (l.getD j Dop.d4) up := by
    unfold keyL
    have e1 : (l.getD i Dop.d4).head = (l.getD j Dop.d4).head := hd
    have e2 : (l.getD i Dop.d4).args.map (root up) = (l.getD j Dop.d4).args.map (root up) := by
      apply List.ext_getElem
      · rw [List.length_map, List.length_map]; exact ha
      · intro q q1 q2
        have q1' : q < (l.getD i Dop.d4).args.length := by simpa using q1
        have q2' : q < (l.getD j Dop.d4).args.length := by simpa using q2
        have := hr q q1'
        have g : ∀ (s : List Int) (q : Nat) (h : q < s.length), s[q] = s.getD q 0 := fun s q h => by simp [List.getD, h]
        rw [List.getElem_map, List.getElem_map, g _ _ q1', g _ _ q2']
        exact this
    rw [e1, e2]
  rw [this, h3] at h1
  cases h1
  exact h2.symm.trans h4
/-- All rounds from a label on. -/
theorem rounds : ∀ (n : Nat) (up : List Int), roots up ≤ n → Up l p up → ∃ up' f' c, Up l p up' ∧ Merges up up' ∧ Seen l up' f' l.length ∧ Done l.length up' c ∧ Tryd.m11_100014 up l = some ((c, ()), ()) := by
  intro n
  induction n with
  | zero =>
    intro up hn hu
    obtain ⟨up', ch', f', r1, r2, r3, r4, r5, r6⟩ := round_loop l p (by omega) hs Tryd.m11_100017 _ (fun up ch f k hu hk => step100017 l p hl hs up ch f k hu hk) (fun up ch f => end100017 l hl up ch f) l.length 0 up false [] (by omega) hu (fun key m h => by cases (show none = some m from h)) (fun _ i h => by omega)
    have hch : ch' = false := by
      cases ch' with
      | false => rfl
      | true => exact (r4 rfl).elim (fun h => by cases h) (fun h => absurd h (by omega))
    subst hch
    obtain ⟨-, c, h1, h2⟩ := out_loop up' r1.fo l.length (by omega) l.length 0 (List.replicate l.length 0) (by omega) (by simp) (fun i h => by omega)
    refine ⟨up', f', c, r1, r2, r5 rfl, h1, ?_⟩
    rw [Tryd.m11_100014_eq]
    exact r6.trans h2
  | succ n ih =>
    intro up hn hu
    obtain ⟨up', ch', f', r1, r2, r3, r4, r5, r6⟩ := round_loop l p (by omega) hs Tryd.m11_100017 _ (fun up ch f k hu hk => step100017 l p hl hs up ch f k hu hk) (fun up ch f => end100017 l hl up ch f) l.length 0 up false [] (by omega) hu (fun key m h => by cases (show none = some m from h)) (fun _ i h => by omega)
    cases ch' with
    | false =>
      obtain ⟨-, c, h1, h2⟩ := out_loop up' r1.fo l.length (by omega) l.length 0 (List.replicate l.length 0) (by omega) (by simp) (fun i h => by omega)
      refine ⟨up', f', c, r1, r2, r5 rfl, h1, ?_⟩
      rw [Tryd.m11_100014_eq]
      exact r6.trans h2
    | true =>
      have hlt : roots up' < roots up := by
        rcases r4 rfl with h | h
        · cases h
        · exact h
      obtain ⟨up2, f2, c, k1, k2, k3, k4, k5⟩ := ih up' (by omega) r1
      refine ⟨up2, f2, c, k1, fun a b h => k2 a b (r2 a b h), k3, k4, ?_⟩
      rw [Tryd.m11_100014_eq]
      exact r6.trans k5
theorem rounds0 (up : List Int) (hu : Up l p up) : ∃ up' f' c, Up l p up' ∧ Merges up up' ∧ Seen l up' f' l.length ∧ Done l.length up' c ∧ Tryd.m11_14 up l = some ((c, ()), ()) := by
  obtain ⟨up', ch', f', r1, r2, r3, r4, r5, r6⟩ := round_loop l p (by omega) hs Tryd.m11_17 _ (fun up ch f k hu hk => step17 l p hl hs up ch f k hu hk) (fun up ch f => end17 l hl up ch f) l.length 0 up false [] (by omega) hu (fun key m h => by cases (show none = some m from h)) (fun _ i h => by omega)
  cases ch' with
  | false =>
    obtain ⟨⟨c, h1, h2⟩, -⟩ := out_loop up' r1.fo l.length (by omega) l.length 0 (List.replicate l.length 0) (by omega) (by simp) (fun i h => by omega)
    refine ⟨up', f', c, r1, r2, r5 rfl, h1, ?_⟩
    rw [Tryd.m11_14_eq]
    exact r6.trans h2
  | true =>
    obtain ⟨up2, f2, c, k1, k2, k3, k4, k5⟩ := rounds l p hl hs _ up' (Nat.le_refl _) r1
    refine ⟨up2, f2, c, k1, fun a b h => k2 a b (r2 a b h), k3, k4, ?_⟩
    rw [Tryd.m11_14_eq]
    exact r6.trans k5
/-- CLASSES. -/
theorem classes_v (hp : p.length < 1000000) : ∃ c : List Int, Tryd.m11 l p = some ((c, ()), ()) ∧ Leasts l.length (hdN l) (arN l) (prs p) c := by
  have h0 : 0 ≤ I l.length ∧ I l.length ≤ I l.length ∧ I l.length * (I 8 + 1) ≤ 140737488355328 := by simp only [I_eq]; omega
  obtain ⟨r, r1, r2, r3⟩ := init_loop l p (by omega) l.length 0 (List.replicate l.length 0) (by omega) (by simp) (fun i h => by omega)
  have hu0 : Up l p r := ⟨r1, fun i hi => by have := r2 i (by omega); omega, fun i hi => by rw [id_root (fun i hi => r2 i (by omega))]; exact .refl _⟩
  obtain ⟨up, u1, u2, u3⟩ := pair_loop l p hp p.length 0 r (by omega) hu0 (fun j h => by omega)
  obtain ⟨up', f', c, k1, k2, k3, k4, k5⟩ := rounds0 l p hl hs up u1
  refine ⟨c, ?_, k4.1, fun i hi => ?_⟩
  · rw [Tryd.m11_eq]
    simp only [h0, and_self, decide_true, if_true, I_nat, List.length_replicate]
    have e0 : I 0 = 0 := rfl
    rw [e0] at r3 u3
    rw [r3, u3, k5]
  · have hlen := k1.len
    have hr := root_rng k1.fo (a := (i : Int)) (by omega) (by omega)
    rw [k4.2 i hi]
    refine ⟨hr.1, k1.sound i hi, fun j hj => ?_⟩
    have hR : root up' (i : Int) = root up' j := by
      refine Cg.least (R := fun a b => root up' a = root up' b) (fun _ => rfl) (fun _ _ h => h.symm) (fun _ _ _ h1 h2 => h1.trans h2) (fun a b hm ha1 ha2 hb1 hb2 => ?_) (fun i j h1 h2 h3 h4 h5 => seen_closed l k3 h1 h2 h3 h4 h5) hj
      obtain ⟨q, hq, e⟩ := List.mem_map.1 hm
      obtain ⟨n, hn, hq'⟩ := List.getElem_of_mem hq
      have hg : p.getD n Dop.d5 = q := by simp [List.getD, hn, hq']
      have := u2 n hn
      rw [hg] at this
      simp only [Prod.mk.injEq] at e
      obtain ⟨rfl, rfl⟩ := e
      exact k2 _ _ (this ⟨ha1, ha2, hb1, hb2⟩)
    rw [hR]
    by_cases c : 0 ≤ j ∧ j < up'.length
    · exact (root_rng k1.fo c.1 c.2).2.1
    · rw [root_out c]; exact Int.le_refl _
omit hl hs in
theorem leasts_iff {c : List Int} (h : Leasts l.length (hdN l) (arN l) (prs p) c) {a b : Int} (ha : 0 ≤ a ∧ a < I l.length) (hb : 0 ≤ b ∧ b < I l.length) : c.getD a.toNat 0 = c.getD b.toNat 0 ↔ CgN l p a b := by
  simp only [I_eq] at ha hb
  have := h.iff (i := a.toNat) (j := b.toNat) (by omega) (by omega)
  rwa [show ((a.toNat : Nat) : Int) = a by omega, show ((b.toNat : Nat) : Int) = b by omega] at this
/-- SAME. -/
theorem same_v (hp : p.length < 1000000) (a b : Int) : ∃ r, Tryd.m13 l p a b = some ((r, ()), ()) ∧ (r = true ↔ 0 ≤ a ∧ a < I l.length ∧ 0 ≤ b ∧ b < I l.length ∧ CgN l p a b) := by
  obtain ⟨c, h1, h2⟩ := classes_v l p hl hs hp
  rw [Tryd.m13_eq]
  by_cases c1 : a < 0
  · simp only [c1, decide_true, if_true]; exact ⟨_, rfl, by simp; omega⟩
  by_cases c2 : I l.length ≤ a
  · simp only [c1, c2, decide_true, decide_false, Bool.false_eq_true, if_false, if_true]; exact ⟨_, rfl, by simp; omega⟩
  by_cases c3 : b < 0
  · simp only [c1, c2, c3, decide_true, decide_false, Bool.false_eq_true, if_false, if_true]; exact ⟨_, rfl, by simp; omega⟩
  by_cases c4 : I l.length ≤ b
  · simp only [c1, c2, c3, c4, decide_true, decide_false, Bool.false_eq_true, if_false, if_true]; exact ⟨_, rfl, by simp; omega⟩
  have hcl : I c.length = I l.length := by rw [h2.1]
  have d1 : 0 ≤ a ∧ a < I c.length := by omega
  have d2 : 0 ≤ b ∧ b < I c.length := by omega
  have d3 : a.toNat < c.length := by simp only [I_eq] at d1; omega
  have d4 : b.toNat < c.length := by simp only [I_eq] at d2; omega
  simp only [c1, c2, c3, c4, decide_false, Bool.false_eq_true, if_false, h1, Option.bind, d1, d2, d3, d4, and_self, decide_true, if_true]
  refine ⟨_, rfl, ?_⟩
  rw [decide_eq_true_eq, leasts_iff l p h2 (a := a) (b := b) (by omega) (by omega)]
  simp only [true_and]
  exact ⟨fun h => ⟨by omega, by omega, h⟩, fun h => h.2.2⟩
end
end Go.Proofs.Law
