/-
  Layer 18, plain: the least congruence of some pairs; unions.
-/
namespace Go.Proofs.Law
section
variable (n : Nat) (hd : Nat → List UInt8) (ar : Nat → List Int) (ps : List (Int × Int))
/-- What must be the same. -/
inductive Cg : Int → Int → Prop
  | refl (a : Int) : Cg a a
  | symm {a b : Int} : Cg a b → Cg b a
  | trans {a b c : Int} : Cg a b → Cg b c → Cg a c
  | pair {a b : Int} : (a, b) ∈ ps → 0 ≤ a → a < n → 0 ≤ b → b < n → Cg a b
  | cong (i j : Nat) : i < n → j < n → hd i = hd j → (ar i).length = (ar j).length → (∀ k, k < (ar i).length → Cg ((ar i).getD k 0) ((ar j).getD k 0)) → Cg i j
end
section
variable {n : Nat} {hd : Nat → List UInt8} {ar : Nat → List Int} {ps qs : List (Int × Int)}
theorem Cg.least {R : Int → Int → Prop} (h1 : ∀ a, R a a) (h2 : ∀ a b, R a b → R b a) (h3 : ∀ a b c, R a b → R b c → R a c) (h4 : ∀ a b, (a, b) ∈ ps → 0 ≤ a → a < n → 0 ≤ b → b < n → R a b)
    (h5 : ∀ i j : Nat, i < n → j < n → hd i = hd j → (ar i).length = (ar j).length → (∀ k, k < (ar i).length → R ((ar i).getD k 0) ((ar j).getD k 0)) → R i j) {a b : Int} (h : Cg n hd ar ps a b) : R a b := by
  induction h with
  | refl a => exact h1 a
  | symm _ ih => exact h2 _ _ ih
  | trans _ _ ih1 ih2 => exact h3 _ _ _ ih1 ih2
  | pair h a1 a2 a3 a4 => exact h4 _ _ h a1 a2 a3 a4
  | cong i j a1 a2 a3 a4 _ ih => exact h5 i j a1 a2 a3 a4 ih
theorem Cg.mono (hs : ∀ a b, (a, b) ∈ ps → 0 ≤ a → a < n → 0 ≤ b → b < n → Cg n hd ar qs a b) {a b : Int} (h : Cg n hd ar ps a b) : Cg n hd ar qs a b :=
  Cg.least .refl (fun _ _ => .symm) (fun _ _ _ => .trans) hs (fun i j a1 a2 a3 a4 a5 => .cong i j a1 a2 a3 a4 a5) h
theorem Cg.range {a b : Int} (h : Cg n hd ar ps a b) : a = b ∨ (0 ≤ a ∧ a < n ∧ 0 ≤ b ∧ b < n) :=
  Cg.least (R := fun a b => a = b ∨ (0 ≤ a ∧ a < n ∧ 0 ≤ b ∧ b < n)) (fun _ => .inl rfl) (fun a b h => by omega) (fun a b c h1 h2 => by omega) (fun a b _ h1 h2 h3 h4 => .inr ⟨h1, h2, h3, h4⟩) (fun i j h1 h2 _ _ _ => .inr (by omega)) h
/-- A function tells for each node the least one that it is the same as. -/
def Leasts (n : Nat) (hd : Nat → List UInt8) (ar : Nat → List Int) (ps : List (Int × Int)) (c : List Int) : Prop :=
  c.length = n ∧ ∀ i : Nat, i < n → 0 ≤ c.getD i 0 ∧ Cg n hd ar ps i (c.getD i 0) ∧ ∀ j : Int, Cg n hd ar ps i j → c.getD i 0 ≤ j
theorem Leasts.uniq {c d : List Int} (hc : Leasts n hd ar ps c) (hd' : Leasts n hd ar ps d) {i : Nat} (hi : i < n) : c.getD i 0 = d.getD i 0 := by
  obtain ⟨-, h1⟩ := hc
  obtain ⟨-, h2⟩ := hd'
  have a := h1 i hi
  have b := h2 i hi
  have := a.2.2 _ b.2.1
  have := b.2.2 _ a.2.1
  omega
theorem Leasts.le {c : List Int} (hc : Leasts n hd ar ps c) {i : Nat} (hi : i < n) : 0 ≤ c.getD i 0 ∧ c.getD i 0 ≤ i := ⟨(hc.2 i hi).1, (hc.2 i hi).2.2 _ (.refl _)⟩
theorem Leasts.iff {c : List Int} (hc : Leasts n hd ar ps c) {i j : Nat} (hi : i < n) (hj : j < n) : c.getD i 0 = c.getD j 0 ↔ Cg n hd ar ps i j := by
  have a := hc.2 i hi
  have b := hc.2 j hj
  constructor
  · intro h; exact a.2.1.trans (h ▸ b.2.1.symm)
  · intro h
    have h1 := a.2.2 _ (h.trans b.2.1)
    have h2 := b.2.2 _ (h.symm.trans a.2.1)
    omega

/-! Forests. -/
/-- Each points to a lesser one, or to itself. -/
def Fo (up : List Int) : Prop := ∀ i : Nat, i < up.length → 0 ≤ up.getD i 0 ∧ up.getD i 0 ≤ i
def rootN (up : List Int) : Nat → Int → Int
  | 0, a => a
  | f + 1, a => if 0 ≤ a ∧ a < up.length ∧ up.getD a.toNat 0 ≠ a then rootN up f (up.getD a.toNat 0) else a
/-- The least one that a node is told to be the same as. -/
def root (up : List Int) (a : Int) : Int := rootN up (a.toNat + 1) a
theorem rootN_more {up : List Int} (h : Fo up) : ∀ (f g : Nat) (a : Int), a.toNat < f → a.toNat < g → rootN up f a = rootN up g a
  | 0, g, a, h1, _ => by omega
  | f + 1, 0, a, _, h2 => by omega
  | f + 1, g + 1, a, h1, h2 => by
    simp only [rootN]
    split
    · rename_i c
      obtain ⟨c1, c2, c3⟩ := c
      have := h a.toNat (by omega)
      exact rootN_more h f g _ (by omega) (by omega)
    · rfl
theorem root_out {up : List Int} {a : Int} (h : ¬ (0 ≤ a ∧ a < up.length)) : root up a = a := by
  simp only [root, rootN]
  rw [if_neg (fun c => h ⟨c.1, c.2.1⟩)]
theorem root_self {up : List Int} {a : Int} (h : up.getD a.toNat 0 = a) : root up a = a := by
  simp only [root, rootN]
  rw [if_neg (fun c => c.2.2 h)]
theorem root_up {up : List Int} (h : Fo up) {a : Int} (h0 : 0 ≤ a) (h1 : a < up.length) : root up a = root up (up.getD a.toNat 0) := by
  by_cases e : up.getD a.toNat 0 = a
  · rw [e]
  · have := h a.toNat (by omega)
    simp only [root]
    rw [show rootN up (a.toNat + 1) a = rootN up a.toNat (up.getD a.toNat 0) by simp only [rootN]; rw [if_pos ⟨h0, h1, e⟩]]
    exact rootN_more h _ _ _ (by omega) (by omega)
/-- What a root is. -/
theorem root_in {up : List Int} (h : Fo up) : ∀ (k : Nat) (a : Int), a.toNat ≤ k → 0 ≤ a → a < up.length → 0 ≤ root up a ∧ root up a ≤ a ∧ up.getD (root up a).toNat 0 = root up a := by
  intro k
  induction k with
  | zero =>
    intro a hk h0 h1
    have ha : a = 0 := by omega
    have h2 := h 0 (by omega)
    have : up.getD a.toNat 0 = a := by rw [ha]; simp only [Int.toNat_zero]; omega
    rw [root_self this]
    exact ⟨h0, Int.le_refl _, this⟩
  | succ k ih =>
    intro a hk h0 h1
    by_cases e : up.getD a.toNat 0 = a
    · rw [root_self e]; exact ⟨h0, Int.le_refl _, e⟩
    · have h2 := h a.toNat (by omega)
      rw [root_up h h0 h1]
      have := ih (up.getD a.toNat 0) (by omega) h2.1 (by omega)
      exact ⟨this.1, by omega, this.2.2⟩
theorem root_rng {up : List Int} (h : Fo up) {a : Int} (h0 : 0 ≤ a) (h1 : a < up.length) : 0 ≤ root up a ∧ root up a ≤ a ∧ up.getD (root up a).toNat 0 = root up a := root_in h a.toNat a (Nat.le_refl _) h0 h1
theorem root_root {up : List Int} (h : Fo up) (a : Int) : root up (root up a) = root up a := by
  by_cases c : 0 ≤ a ∧ a < up.length
  · exact root_self (root_rng h c.1 c.2).2.2
  · rw [root_out c, root_out c]
/-- Two roots made one. -/
def unite (up : List Int) (x y : Int) : List Int := up.set (max x y).toNat (min x y)
theorem getD_set {l : List Int} {i j : Nat} {v : Int} : (l.set i v).getD j 0 = if i = j ∧ j < l.length then v else l.getD j 0 := by
  simp only [List.getD_eq_getElem?_getD, List.getElem?_set]
  by_cases h : i = j
  · subst h
    by_cases h2 : i < l.length
    · simp [h2]
    · simp [h2]
  · simp [h]
theorem unite_fo {up : List Int} (h : Fo up) {x y : Int} (hx : 0 ≤ x ∧ x < up.length) (hy : 0 ≤ y ∧ y < up.length) : Fo (unite up x y) := by
  intro i hi
  simp only [unite, List.length_set] at hi ⊢
  have := h i hi
  rw [getD_set]
  split <;> omega
theorem unite_root {up : List Int} (h : Fo up) {x y : Int} (hx : 0 ≤ x ∧ x < up.length) (hy : 0 ≤ y ∧ y < up.length) (hxr : up.getD x.toNat 0 = x) (hyr : up.getD y.toNat 0 = y) (hne : x ≠ y) : ∀ (k : Nat) (a : Int), a.toNat ≤ k →
    root (unite up x y) a = if root up a = max x y then min x y else root up a := by
  have h' := unite_fo h hx hy
  have hl : (unite up x y).length = up.length := by simp [unite]
  have hget : ∀ j : Nat, (unite up x y).getD j 0 = if (max x y).toNat = j ∧ j < up.length then min x y else up.getD j 0 := fun j => getD_set
  intro k
  induction k with
  | zero =>
    intro a ha
    by_cases c : 0 ≤ a ∧ a < up.length
    · have ha0 : a = 0 := by omega
      have e1 : up.getD a.toNat 0 = a := by have := h 0 (by omega); rw [ha0]; simp only [Int.toNat_zero]; omega
      have e2 : (unite up x y).getD a.toNat 0 = a := by
        rw [hget, if_neg (by omega)]; exact e1
      rw [root_self e1, root_self e2, if_neg (by omega)]
    · rw [root_out c, root_out (by rw [hl]; exact c), if_neg (by omega)]
  | succ k ih =>
    intro a ha
    by_cases c : 0 ≤ a ∧ a < up.length
    · by_cases e : a = max x y
      · have e1 : up.getD a.toNat 0 = a := by
          rcases Int.le_total x y with hle | hle
          · rw [show a = y by omega]; exact hyr
          · rw [show a = x by omega]; exact hxr
        have e2 : (unite up x y).getD a.toNat 0 = min x y := by rw [hget, if_pos (by omega)]
        rw [root_self e1, if_pos e, root_up h' c.1 (by rw [hl]; exact c.2), e2]
        have e3 : (unite up x y).getD (min x y).toNat 0 = min x y := by
          rw [hget, if_neg (by omega)]
          rcases Int.le_total x y with hle | hle
          · rw [show min x y = x by omega]; exact hxr
          · rw [show min x y = y by omega]; exact hyr
        exact root_self e3
      · have e2 : (unite up x y).getD a.toNat 0 = up.getD a.toNat 0 := by rw [hget, if_neg (by omega)]
        by_cases e1 : up.getD a.toNat 0 = a
        · rw [root_self e1, root_self (e2.trans e1), if_neg e]
        · have h2 := h a.toNat (by omega)
          rw [root_up h' c.1 (by rw [hl]; exact c.2), e2, root_up h c.1 c.2]
          exact ih _ (by omega)
    · rw [root_out c, root_out (by rw [hl]; exact c), if_neg (by omega)]
/-- How many roots. -/
def roots (up : List Int) : Nat := ((List.range up.length).filter fun i => up.getD i 0 = (i : Int)).length
theorem roots_unite {up : List Int} {x y : Int} (hx : 0 ≤ x ∧ x < up.length) (hy : 0 ≤ y ∧ y < up.length) (hxr : up.getD x.toNat 0 = x) (hyr : up.getD y.toNat 0 = y) (hne : x ≠ y) : roots (unite up x y) < roots up := by
  have hl : (unite up x y).length = up.length := by simp [unite]
  have hget : ∀ j : Nat, (unite up x y).getD j 0 = if (max x y).toNat = j ∧ j < up.length then min x y else up.getD j 0 := fun j => getD_set
  have key : ∀ (l : List Nat), (∀ i ∈ l, i < up.length) → (l.filter fun i => decide ((unite up x y).getD i 0 = (i : Int))).length + (if (max x y).toNat ∈ l then 1 else 0) ≤ (l.filter fun i => decide (up.getD i 0 = (i : Int))).length := by
    intro l
    induction l with
    | nil => intro _; simp
    | cons j r ih =>
      intro hj
      have ih := ih fun i hi => hj i (by simp [hi])
      have hjl := hj j (by simp)
      simp only [List.filter_cons, List.mem_cons]
      by_cases e : j = (max x y).toNat
      · have e1 : (unite up x y).getD j 0 ≠ (j : Int) := by rw [hget, if_pos ⟨e.symm, hjl⟩]; omega
        have e2 : up.getD j 0 = (j : Int) := by
          rcases Int.le_total x y with hle | hle
          · rw [show j = y.toNat by omega, hyr]; omega
          · rw [show j = x.toNat by omega, hxr]; omega
        simp only [e1, e2, decide_true, decide_false, if_true, Bool.false_eq_true, if_false, e.symm, true_or, List.length_cons]
        split at ih <;> omega
      · have e1 : (unite up x y).getD j 0 = up.getD j 0 := by rw [hget, if_neg (fun c => e c.1.symm)]
        have e3 : ¬ (max x y).toNat = j := fun c => e c.symm
        simp only [e1, e3, false_or]
        split
        · simp only [List.length_cons]; omega
        · exact ih
  have h1 := key (List.range up.length) (fun i hi => List.mem_range.1 hi)
  rw [if_pos (List.mem_range.2 (by omega))] at h1
  simp only [roots, hl]
  omega
theorem roots_le (up : List Int) : roots up ≤ up.length := by
  simp only [roots]
  exact Nat.le_trans (List.length_filter_le _ _) (by simp)
/-- Chains: f of f .. of 0. -/
theorem chain_sub {M : Nat} (hn : n = M + 1) (hh : ∀ i, 0 < i → i < n → hd i = hd 1 ∧ ar i = [((i - 1 : Nat) : Int)]) {a b : Nat} : ∀ (k : Nat), a + k ≤ M → b + k ≤ M → Cg n hd ar ps a b → Cg n hd ar ps ((a + k : Nat) : Int) ((b + k : Nat) : Int)
  | 0, _, _, h => h
  | k + 1, h1, h2, h => by
    have ih := chain_sub hn hh k (by omega) (by omega) h
    obtain ⟨e1, e2⟩ := hh (a + (k + 1)) (by omega) (by omega)
    obtain ⟨e3, e4⟩ := hh (b + (k + 1)) (by omega) (by omega)
    refine .cong _ _ (by omega) (by omega) (e1.trans e3.symm) (by rw [e2, e4]; rfl) fun j hj => ?_
    rw [e2] at hj
    have hj0 : j = 0 := by simpa using hj
    rw [e2, e4, hj0]
    exact ih
end
end Go.Proofs.Law
