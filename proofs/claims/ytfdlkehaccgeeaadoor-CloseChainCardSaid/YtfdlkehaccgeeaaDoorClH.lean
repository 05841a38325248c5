/-
  Layer 18, plain: chains.
-/
import Derived.Test.YtfdlkehaccgeeaaDoorClG
set_option maxHeartbeats 800000
namespace Go.Proofs.Law
open Go Go.En Go.Proofs

theorem I_tmod (a b : Nat) : (I a).tmod (I b) = I (a % b) := by
  simp only [I_eq]
  rw [Int.tmod_eq_emod_of_nonneg (by omega)]
  omega
def chainL (k : Nat) : List En.Dop.Nod := ⟨[97], []⟩ :: (List.range k).map fun i => ⟨[102], [I i]⟩
theorem chainL_len (k : Nat) : (chainL k).length = k + 1 := by simp [chainL]
theorem chainL_s (k : Nat) : chainL k ++ [⟨[102], [I k]⟩] = chainL (k + 1) := by
  simp [chainL, List.range_succ]
theorem chainL_0 {k : Nat} : (chainL k).getD 0 Dop.d4 = ⟨[97], []⟩ := rfl
theorem chainL_get {k i : Nat} (h0 : 0 < i) (h1 : i < k + 1) : (chainL k).getD i Dop.d4 = ⟨[102], [I (i - 1)]⟩ := by
  obtain ⟨j, rfl⟩ : ∃ j, i = j + 1 := ⟨i - 1, by omega⟩
  show ((List.range k).map fun i => (⟨[102], [I i]⟩ : En.Dop.Nod)).getD j Dop.d4 = _
  simp [List.getD, List.getElem?_range (show j < k by omega)]
theorem chain_small (k : Nat) (hk : k ≤ 12) : ∀ x ∈ chainL k, SmallN x := by
  intro x hx
  unfold chainL at hx
  rcases List.mem_cons.1 hx with h | h
  · subst h; exact ⟨by decide, by decide, fun a h => by cases h⟩
  · obtain ⟨i, hi, rfl⟩ := List.mem_map.1 h
    rw [List.mem_range] at hi
    refine ⟨by simp, by simp, fun a ha => ?_⟩
    simp only [List.mem_cons, List.not_mem_nil, or_false] at ha
    subst ha; simp only [I_eq]; omega
section
variable (m n M : Nat) (hm : m ≤ M) (hn : n ≤ M) (hM : M ≤ 12)
abbrev CgC : Int → Int → Prop := CgN (chainL M) [⟨0, I m⟩, ⟨0, I n⟩]
theorem chain_shift {a b : Nat} (k : Nat) (h1 : a + k ≤ M) (h2 : b + k ≤ M) (h : CgC m n M (a : Int) (b : Int)) : CgC m n M ((a + k : Nat) : Int) ((b + k : Nat) : Int) := by
  refine chain_sub (M := M) (chainL_len M) (fun i h0 h1 => ?_) k h1 h2 h
  rw [chainL_len] at h1
  unfold hdN arN
  rw [chainL_get h0 h1, chainL_get (i := 1) (by omega) (by omega)]
  exact ⟨rfl, rfl⟩
/-- Being zero goes on by remainders. -/
theorem chain_mod (y : Nat) (hy : 0 < y) (hyM : y ≤ M) (h0y : CgC m n M 0 (y : Int)) : ∀ (k x : Nat), x ≤ k → x ≤ M → CgC m n M (x : Int) ((x % y : Nat) : Int) := by
  intro k
  induction k with
  | zero =>
    intro x h1 h2
    have : x = 0 := by omega
    subst this
    rw [Nat.zero_mod]; exact .refl _
  | succ k ih =>
    intro x h1 h2
    by_cases c : x < y
    · rw [Nat.mod_eq_of_lt c]; exact .refl _
    · have := chain_shift m n M (a := 0) (b := y) (x - y) (by omega) (by omega) (by exact_mod_cast h0y)
      rw [show 0 + (x - y) = x - y by omega, show y + (x - y) = x by omega] at this
      have h3 := ih (x - y) (by omega) (by omega)
      rw [← Nat.mod_eq_sub_mod (by omega)] at h3
      exact this.symm.trans h3
include hm hn in
theorem chain_only (g : Nat) (hg : 0 < g) (h1 : g ∣ m) (h2 : g ∣ n) {a b : Int} (h : CgC m n M a b) : a = b ∨ (0 ≤ a ∧ 0 ≤ b ∧ a % (g : Int) = b % (g : Int)) := by
  refine Cg.least (R := fun a b => a = b ∨ (0 ≤ a ∧ 0 ≤ b ∧ a % (g : Int) = b % (g : Int))) (fun _ => .inl rfl) (fun a b h => ?_) (fun a b c h h' => ?_) (fun a b h _ _ _ _ => ?_) (fun i j h1 h2 h3 h4 h5 => ?_) h
  · rcases h with h | ⟨a1, a2, a3⟩
    · exact .inl h.symm
    · exact .inr ⟨a2, a1, a3.symm⟩
  · rcases h with h | ⟨a1, a2, a3⟩
    · subst h; exact h'
    · rcases h' with h' | ⟨b1, b2, b3⟩
      · subst h'; exact .inr ⟨a1, a2, a3⟩
      · exact .inr ⟨a1, b2, a3.trans b3⟩
  · simp only [prs, List.map_cons, List.map_nil, List.mem_cons, List.not_mem_nil, or_false, Prod.mk.injEq] at h
    rcases h with ⟨rfl, rfl⟩ | ⟨rfl, rfl⟩
    · refine .inr ⟨by omega, I_nn _, ?_⟩
      obtain ⟨q, rfl⟩ := h1
      simp [I_eq]
    · refine .inr ⟨by omega, I_nn _, ?_⟩
      obtain ⟨q, rfl⟩ := h2
      simp [I_eq]
  · rw [chainL_len] at h1 h2
    unfold hdN at h3
    unfold arN at h5
    by_cases ci : i = 0
    · by_cases cj : j = 0
      · exact .inl (by omega)
      · subst ci
        rw [chainL_0, chainL_get (by omega) h2] at h3
        exact absurd (show ([97] : List UInt8) = [102] from h3) (by decide)
    · by_cases cj : j = 0
      · subst cj
        rw [chainL_0, chainL_get (by omega) h1] at h3
        exact absurd (show ([102] : List UInt8) = [97] from h3) (by decide)
      · have := h5 0 (by rw [chainL_get (by omega) h1]; exact Nat.zero_lt_one)
        rw [chainL_get (by omega) h1, chainL_get (by omega) h2] at this
        have this : I (i - 1) = I (j - 1) ∨ (0 ≤ I (i - 1) ∧ 0 ≤ I (j - 1) ∧ I (i - 1) % (g : Int) = I (j - 1) % (g : Int)) := this
        simp only [I_eq] at this
        rcases this with h | ⟨_, _, h⟩
        · exact .inl (by omega)
        · refine .inr ⟨by omega, by omega, ?_⟩
          rw [show (i : Int) = ((i - 1 : Nat) : Int) + 1 by omega, show (j : Int) = ((j - 1 : Nat) : Int) + 1 by omega, Int.add_emod, h, ← Int.add_emod]
theorem chain13 (c : List Int) (N g : Nat) (hN : N ≤ 13) (hg : 0 < g) (hc : c.length = N) (h : ∀ k, k < N → c.getD k 0 = I (k % g)) : ∀ (q k : Nat), k + q = N → Tryd.m6_13 (I g) c (I N) (I k) = some ((true, ()), ())
  | 0, k, e => by
    have e : k = N := by omega
    subst e
    rw [Tryd.m6_13_eq]
    simp only [I_nlt, decide_false, Bool.false_eq_true, if_false, awake_v, Option.bind]
  | q + 1, k, e => by
    have hk : k < N := by omega
    have hkc : k < c.length := by omega
    have hgn : I g ≠ 0 := by simp only [I_eq]; omega
    rw [Tryd.m6_13_eq]
    simp only [I_lt hk, I_lt hkc, hkc, I_nn, I_nat, I_s, I_in hk (show N < 1000000 by omega), h k hk, I_tmod, hgn, ne_eq, not_false_eq_true, and_self, decide_true, if_true, Bool.not_true, Bool.false_eq_true, if_false]
    exact chain13 c N g hN hg hc h q (k + 1) (by omega)
include hm hn hM in
/-- The greatest divisor, and what follows. -/
theorem chain9 (hm0 : 0 < m) : ∀ (f x y : Nat), y < f → 0 < x → x ≤ M → y ≤ M → CgC m n M 0 (x : Int) → CgC m n M 0 (y : Int) → (∀ d, d ∣ x → d ∣ y → d ∣ m ∧ d ∣ n) →
    Tryd.m6_9 (I m) (I n) (chainL M) (I x) (I y) = some ((true, ()), ())
  | 0, x, y, hf, _, _, _, _, _, _ => by omega
  | f + 1, x, y, hf, hx, hxM, hyM, h1, h2, h3 => by
    rw [Tryd.m6_9_eq]
    by_cases c : y = 0
    · subst c
      have e0 : I 0 = 0 := rfl
      obtain ⟨cl, c1, c2⟩ := classes_v (chainL M) [⟨0, I m⟩, ⟨0, I n⟩] (by rw [chainL_len]; omega) (chain_small M hM) (by simp)
      have hcl := c2.1
      simp only [e0, decide_true, Bool.not_true, Bool.false_eq_true, if_false, c1, Option.bind]
      obtain ⟨d1, d2⟩ := h3 x (Nat.dvd_refl x) (Nat.dvd_zero x)
      rw [chainL_len] at hcl
      have := chain13 cl (M + 1) x (by omega) hx hcl (fun k hk => by
        obtain ⟨k1, k2, k3⟩ := c2.2 k (by rw [chainL_len]; omega)
        have hle := k3 _ (chain_mod m n M x hx hxM h1 k k (Nat.le_refl _) (by omega))
        have hge := chain_only m n M hm hn x hx d1 d2 k2
        have e : ((k % x : Nat) : Int) = (k : Int) % (x : Int) := by omega
        rw [I_eq]
        rcases hge with h | ⟨_, _, h⟩
        · rw [← h] at hle ⊢
          have : k % x ≤ k := Nat.mod_le k x
          omega
        · have := Int.emod_nonneg (cl.getD k 0) (show (x : Int) ≠ 0 by omega)
          have hle2 : cl.getD k 0 % (x : Int) ≤ cl.getD k 0 := by
            have := Int.emod_add_mul_ediv (cl.getD k 0) (x : Int)
            have := Int.mul_nonneg (show (0 : Int) ≤ (x : Int) by omega) (Int.ediv_nonneg k1 (show (0 : Int) ≤ (x : Int) by omega))
            omega
          omega) (M + 1) 0 (by omega)
      rw [hcl]
      exact this
    · have hyn : ¬ I y = 0 := by simp only [I_eq]; omega
      simp only [hyn, decide_false, Bool.not_false, if_true, ne_eq, not_false_eq_true, decide_true, I_tmod]
      have hlt := Nat.mod_lt x (show y > 0 by omega)
      refine chain9 hm0 f y (x % y) (by omega) (by omega) hyM (by omega) h2 (h1.trans (chain_mod m n M y (by omega) hyM h2 x x (Nat.le_refl _) hxM)) (fun d e1 e2 => h3 d ?_ e1)
      rw [← Nat.div_add_mod x y]
      exact Nat.dvd_add (Nat.dvd_trans e1 (Nat.dvd_mul_right y _)) e2
include hM in
theorem chain4 : ∀ (q k : Nat), k + q = M → Tryd.m6_4 (I m) (I n) (chainL k) (I M) (I k) = Tryd.m6_9 (I m) (I n) (chainL M) (I m) (I n)
  | 0, k, e => by
    have e : k = M := by omega
    subst e
    rw [Tryd.m6_4_eq]
    simp only [I_nlt, decide_false, Bool.false_eq_true, if_false]
  | q + 1, k, e => by
    have hk : k < M := by omega
    have hro : ∀ y : En.Dop.Nod, room 40 ((chainL k).length + [y].length) = true := fun y => room_s _ _ (by rw [chainL_len]; simp only [List.length_cons, List.length_nil]; omega)
    rw [Tryd.m6_4_eq]
    simp only [I_lt hk, I_s, I_in hk (show M < 1000000 by omega), hro, andC, decide_true, if_true, chainL_s]
    exact chain4 q (k + 1) (by omega)
end
theorem chain_law (a b : Nat) (ha : a ≤ 255) (hb : b ≤ 255) : Tryd.m6 (I a) (I b) = some ((true, ()), ()) := by
  obtain ⟨m, hm⟩ : ∃ m, m = 1 + a % 12 := ⟨_, rfl⟩
  obtain ⟨n, hn⟩ : ∃ n, n = 1 + b % 12 := ⟨_, rfl⟩
  have e1 : (1 : Int) + (I a).tmod 12 = I m := by
    rw [show (12 : Int) = I 12 from rfl, I_tmod]; simp only [I_eq]; omega
  have e2 : (1 : Int) + (I b).tmod 12 = I n := by
    rw [show (12 : Int) = I 12 from rfl, I_tmod]; simp only [I_eq]; omega
  have i1 : inR (I a) = true := by rw [inR_iff]; simp only [I_eq]; omega
  have i2 : inR (I b) = true := by rw [inR_iff]; simp only [I_eq]; omega
  have i3 : inR (I m) = true := by rw [inR_iff]; simp only [I_eq]; omega
  have i4 : inR (I n) = true := by rw [inR_iff]; simp only [I_eq]; omega
  obtain ⟨M, hM⟩ : ∃ M, M = max m n := ⟨_, rfl⟩
  have e3 : (if I m < I n then I n else I m) = I M := by simp only [I_eq]; split <;> omega
  rw [Tryd.m6_eq]
  simp only [e1, e2, i1, i2, i3, i4, e3, show ¬ (12 : Int) = 0 by decide, ne_eq, not_false_eq_true, decide_true, if_true]
  have := chain4 m n M (by omega) M 0 (by omega)
  have e0 : chainL 0 = [⟨[97], []⟩] := rfl
  have e0' : I 0 = 0 := rfl
  rw [e0, e0'] at this
  rw [this]
  refine chain9 m n M (by omega) (by omega) (by omega) (by omega) (n + 1) m n (by omega) (by omega) (by omega) (by omega) ?_ ?_ (fun d h1 h2 => ⟨h1, h2⟩)
  · exact .pair (by simp [prs, I_eq]) (by omega) (by rw [chainL_len]; omega) (by omega) (by rw [chainL_len]; omega)
  · exact .pair (by simp [prs, I_eq]) (by omega) (by rw [chainL_len]; omega) (by omega) (by rw [chainL_len]; omega)
end Go.Proofs.Law
