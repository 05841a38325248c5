/-
  Layer 17, plain: what is reckoned is what the program computes (numbers, keys, the store).
-/
import Derived.Test.YtpjjpcgnogpdmaaDoorTmB
namespace Go.Proofs.Law.Sy
open Go Go.En Go.Proofs Go.Proofs.Law

theorem wr_eq (n : Int) : wr n = if n % 4294967296 < 2147483648 then n % 4294967296 else n % 4294967296 - 4294967296 := by
  unfold wr IntKind.wrap
  simp only [IntKind.bits, IntKind.signed, Bool.false_and, Bool.true_and, Bool.false_eq_true, if_false, decide_eq_true_eq, show (2 : Int) ^ 32 = 4294967296 by decide, show (2 : Int) ^ (32 - 1) = 2147483648 by decide]
  rw [Int.emod_emod_of_dvd _ (Int.dvd_refl _)]
  split <;> split <;> omega
theorem wr_range (n : Int) : -2147483648 ≤ wr n ∧ wr n ≤ 2147483647 := by
  rw [wr_eq]; split <;> omega
theorem wr_id {n : Int} (h : -2147483648 ≤ n ∧ n ≤ 2147483647) : wr n = n := by
  rw [wr_eq]; split <;> omega
theorem wr_wr (n : Int) : wr (wr n) = wr n := wr_id (wr_range n)
theorem wr_neg_neg {n : Int} (h : -2147483648 ≤ n ∧ n ≤ 2147483647) : wr (-wr (-n)) = n := by
  rw [wr_eq, wr_eq]; split <;> split <;> omega
theorem wr_neg_ne {n : Int} (h : -2147483648 ≤ n ∧ n ≤ 2147483647) (h0 : n ≠ 0) : wr (-n) ≠ 0 := by
  rw [wr_eq]; split <;> omega
theorem wr_inR (n : Int) : inR (wr n) = true := by have := wr_range n; rw [inR_iff]; omega
theorem m21_v (n : Int) : Tryd.m21 n = some ((wr n, ()), ()) := by
  rw [Tryd.m21_eq]
  have := wr_inR n
  unfold wr at this
  rw [if_pos this]; rfl
theorem guardB_ok {α : Type} {b : Bool} {k : Option α} {x : α} (h : guardB b k = some x) : b = true ∧ k = some x := by
  cases b with
  | true => exact ⟨rfl, h⟩
  | false => cases h
theorem eqI_ok {a b : Int} : eqI a b = true ↔ a = b := decide_eq_true_iff
theorem eqI_no {a b : Int} : eqI a b = false ↔ a ≠ b := decide_eq_false_iff_not
theorem in32_ok {a : Int} : in32 a = true ↔ -2147483648 ≤ a ∧ a ≤ 2147483647 := decide_eq_true_iff
theorem eqL_ok : ∀ {a b : List Int}, eqL a b = true ↔ a = b
  | [], [] => by simp [eqL]
  | [], _ :: _ => by simp [eqL]
  | _ :: _, [] => by simp [eqL]
  | a :: r, b :: s => by
    simp only [eqL]
    split
    · rename_i h; rw [eqI_ok.1 h, eqL_ok]; simp
    · rename_i h; have := eqI_no.1 h; simp [this]
theorem eqU_ok : ∀ {a b : List UInt8}, eqU a b = true ↔ a = b
  | [], [] => by simp [eqU]
  | [], _ :: _ => by simp [eqU]
  | _ :: _, [] => by simp [eqU]
  | a :: r, b :: s => by
    simp only [eqU]
    split
    · rename_i h
      rw [UInt8.toNat_inj.1 (Nat.eq_of_beq_eq_true h), eqU_ok]; simp
    · rename_i h
      have : a ≠ b := fun e => by subst e; rw [Nat.beq_refl] at h; cases h
      simp [this]
/-- The number that is not known. -/
def Wk (W : Int) : Prop := (-2147483648 ≤ W ∧ W ≤ 2147483647) ∧ W ≠ 0
section
variable {W : Int} (hW : Wk W)
include hW
theorem inZ_ok {z : Z} (h : inZ z = true) : -2147483648 ≤ ev W z ∧ ev W z ≤ 2147483647 := by
  cases z with
  | c k => exact in32_ok.1 h
  | w => exact hW.1
  | v => exact wr_range _
theorem mulZ_ok {z z' : Z} {b : Int} (h : mulZ z b = some z') : inR (ev W z * b) = true ∧ wr (ev W z * b) = ev W z' ∧ inZ z' = true := by
  have hi : ∀ {k : Int}, (-2147483648 ≤ k ∧ k ≤ 2147483647) → inR (k * 1) = true ∧ inR (k * (-1)) = true := fun h => by rw [inR_iff, inR_iff]; omega
  cases z with
  | c k =>
    obtain ⟨h1, h2⟩ := guardB_ok h
    cases h2
    simp only [Bool.and_eq_true, in32_ok] at h1
    refine ⟨?_, rfl, in32_ok.2 (wr_range _)⟩
    simp only [ev]
    rw [inR_iff]
    have e1 : (k * b).natAbs ≤ 2147483648 * 2147483648 := by rw [Int.natAbs_mul]; exact Nat.mul_le_mul (by omega) (by omega)
    omega
  | w =>
    simp only [mulZ] at h
    split at h
    · rename_i hb; cases h
      rw [eqI_ok.1 hb]
      exact ⟨(hi hW.1).1, by simp only [ev, Int.mul_one]; exact wr_id hW.1, rfl⟩
    · obtain ⟨h1, h2⟩ := guardB_ok h
      cases h2
      rw [eqI_ok.1 h1]
      exact ⟨(hi hW.1).2, by simp only [ev, Int.mul_neg, Int.mul_one], rfl⟩
  | v =>
    have hv := wr_range (-W)
    simp only [mulZ] at h
    split at h
    · rename_i hb; cases h
      rw [eqI_ok.1 hb]
      exact ⟨(hi hv).1, by simp only [ev, Int.mul_one]; exact wr_wr _, rfl⟩
    · obtain ⟨h1, h2⟩ := guardB_ok h
      cases h2
      rw [eqI_ok.1 h1]
      exact ⟨(hi hv).2, by simp only [ev, Int.mul_neg, Int.mul_one]; exact wr_neg_neg hW.1, rfl⟩
theorem addZ_ok {a b z : Z} (h : addZ a b = some z) : inR (ev W a + ev W b) = true ∧ wr (ev W a + ev W b) = ev W z ∧ inZ z = true := by
  have hv := wr_range (-W)
  have hw := hW.1
  unfold addZ at h
  split at h
  case h_6 => cases h
  all_goals
    obtain ⟨h1, h2⟩ := guardB_ok h
    cases h2
  · simp only [Bool.and_eq_true, in32_ok] at h1
    exact ⟨by simp only [ev]; rw [inR_iff]; omega, rfl, in32_ok.2 (wr_range _)⟩
  · rw [eqI_ok.1 h1]
    exact ⟨by simp only [ev]; rw [inR_iff]; omega, by simp only [ev, Int.add_zero]; exact wr_id hw, rfl⟩
  · rw [eqI_ok.1 h1]
    exact ⟨by simp only [ev]; rw [inR_iff]; omega, by simp only [ev, Int.zero_add]; exact wr_id hw, rfl⟩
  · rw [eqI_ok.1 h1]
    exact ⟨by simp only [ev]; rw [inR_iff]; omega, by simp only [ev, Int.add_zero]; exact wr_wr _, rfl⟩
  · rw [eqI_ok.1 h1]
    exact ⟨by simp only [ev]; rw [inR_iff]; omega, by simp only [ev, Int.zero_add]; exact wr_wr _, rfl⟩
theorem zeroZ_ok (z : Z) : zeroZ z = decide (ev W z = 0) := by
  cases z with
  | c k => rfl
  | w => simp only [zeroZ, ev]; exact (decide_eq_false hW.2).symm
  | v => simp only [zeroZ, ev]; exact (decide_eq_false (wr_neg_ne hW.1 hW.2)).symm
theorem sameZ_ok {a b : Z} {t : Bool} (h : sameZ a b = some t) : ev W a = ev W b ↔ t = true := by
  have h1 := hW.2
  have h2 := wr_neg_ne hW.1 hW.2
  unfold sameZ at h
  split at h
  · cases h; exact eqI_ok.symm
  · cases h; simp
  · cases h; simp
  case h_8 => cases h
  all_goals
    obtain ⟨h3, h4⟩ := guardB_ok h
    cases h4
    rw [eqI_ok.1 h3]
    simp only [ev, Bool.false_eq_true, iff_false]
  · exact h1
  · exact fun e => h1 e.symm
  · exact h2
  · exact fun e => h2 e.symm
end
/-! Keys. -/
theorem key_iff {a b : En.Dop.Nod} : keyOf a = keyOf b ↔ headOf a = headOf b ∧ a.args = b.args :=
  ⟨key_args, fun ⟨h1, h2⟩ => by unfold keyOf; rw [h1, h2]⟩
/-- A head's first byte, by the kind. -/
def fb : Nat → UInt8 → Prop
  | 0, b => b = 35
  | 1, b => b = 32
  | 2, b => b = 40
  | 3, b => 97 ≤ b.toNat
  | _, b => b = 43
theorem fb_inj {j k : Nat} {b : UInt8} (hj : j ≤ 4) (hk : k ≤ 4) (h1 : fb j b) (h2 : fb k b) : j = k := by
  rcases (by omega : j = 0 ∨ j = 1 ∨ j = 2 ∨ j = 3 ∨ j = 4) with rfl | rfl | rfl | rfl | rfl <;>
  rcases (by omega : k = 0 ∨ k = 1 ∨ k = 2 ∨ k = 3 ∨ k = 4) with rfl | rfl | rfl | rfl | rfl <;>
  first
  | rfl
  | (exfalso; simp only [fb] at h1 h2; subst h1; revert h2; decide)
  | (exfalso; simp only [fb] at h1 h2; subst h2; revert h1; decide)
theorem opB_ok {k : Nat} (h : opB k = true) : 1 ≤ k ∧ k ≤ 23 := by
  simp only [opB, Bool.and_eq_true, Nat.ble_eq] at h; exact h
theorem hd0 (W : Int) (x : SN) (h4 : x.kind ≤ 4) (h3 : x.kind = 3 → opB x.op = true) : ∃ b r, headOf (evN W x) = b :: r ∧ fb x.kind b := by
  obtain ⟨kind, op, n, name, args, fact⟩ := x
  simp only at h4 h3
  rcases (by omega : kind = 0 ∨ kind = 1 ∨ kind = 2 ∨ kind = 3 ∨ kind = 4) with rfl | rfl | rfl | rfl | rfl
  · exact ⟨35, _, rfl, rfl⟩
  · exact ⟨32, _, rfl, rfl⟩
  · exact ⟨40, _, rfl, rfl⟩
  · have ho := opB_ok (h3 rfl)
    have hn := nm_ok ho.1 ho.2
    simp only [nmOk, Bool.and_eq_true] at hn
    have e : headOf (evN W ⟨3, op, n, name, args, fact⟩) = opNm op := rfl
    rw [e]
    cases hq : opNm op with
    | nil => rw [hq] at hn; cases hn.2
    | cons b r => rw [hq] at hn; exact ⟨b, r, rfl, Nat.le_of_ble_eq_true hn.2⟩
  · exact ⟨43, _, rfl, rfl⟩
theorem cons_inj_iff {α : Type} {a : α} {r s : List α} : a :: r = a :: s ↔ r = s := by simp
theorem itoa_iff {a b : Int} : Lib.itoa a = Lib.itoa b ↔ a = b := ⟨itoa_inj, fun h => by rw [h]⟩
theorem sameN_ok {W : Int} (hW : Wk W) {x y : SN} {t : Bool} (h : sameN x y = some t) : keyOf (evN W x) = keyOf (evN W y) ↔ t = true := by
  rw [key_iff]
  obtain ⟨kind, op, n, name, args, fact⟩ := x
  obtain ⟨kind', op', n', name', args', fact'⟩ := y
  unfold sameN at h
  simp only at h
  split at h
  · simp only [Option.map_eq_some_iff] at h
    obtain ⟨u, h1, rfl⟩ := h
    show (35 :: Lib.itoa (ev W n) = 35 :: Lib.itoa (ev W n')) ∧ args = args' ↔ _
    rw [cons_inj_iff, itoa_iff, sameZ_ok hW h1, Bool.and_eq_true, eqL_ok]
  · cases h
    show (32 :: name = 32 :: name') ∧ args = args' ↔ _
    rw [cons_inj_iff, Bool.and_eq_true, eqL_ok, eqU_ok]
  · cases h
    show (40 :: name = 40 :: name') ∧ args = args' ↔ _
    rw [cons_inj_iff, Bool.and_eq_true, eqL_ok, eqU_ok]
  · obtain ⟨h1, h2⟩ := guardB_ok h
    cases h2
    simp only [Bool.and_eq_true] at h1
    have k1 := opB_ok h1.1
    have k2 := opB_ok h1.2
    show (opNm op = opNm op') ∧ args = args' ↔ _
    rw [Bool.and_eq_true, eqL_ok, Nat.beq_eq]
    exact ⟨fun ⟨a, b⟩ => ⟨nm_inj k1 k2 a, b⟩, fun ⟨a, b⟩ => ⟨by rw [a], b⟩⟩
  · show (43 :: Lib.itoa (ev W n) ++ numsL 44 fact = 43 :: Lib.itoa (ev W n') ++ numsL 44 fact') ∧ args = args' ↔ _
    have key : (43 :: Lib.itoa (ev W n) ++ numsL 44 fact = 43 :: Lib.itoa (ev W n') ++ numsL 44 fact') ↔ ev W n = ev W n' ∧ fact = fact' := by
      constructor
      · intro e
        simp only [List.cons_append, List.cons.injEq, true_and] at e
        have := nums44 (l := ev W n :: fact) (m := ev W n' :: fact') (by simp only [numsL, List.flatMap_cons, List.cons_append] at e ⊢; rw [e])
        simpa using this
      · rintro ⟨e1, e2⟩; rw [e1, e2]
    rw [key]
    split at h
    · rename_i hb
      simp only [Bool.and_eq_true, eqL_ok] at hb
      rw [sameZ_ok hW h]
      simp [hb.1, hb.2]
    · rename_i hb
      cases h
      simp only [Bool.false_eq_true, iff_false]
      rintro ⟨⟨_, e2⟩, e3⟩
      rw [eqL_ok.2 e2, eqL_ok.2 e3] at hb
      cases hb
  · obtain ⟨h1, h2⟩ := guardB_ok h
    cases h2
    simp only [Bool.and_eq_true, Nat.ble_eq, Bool.not_eq_true', Bool.or_eq_true] at h1
    obtain ⟨⟨⟨⟨h1, h2⟩, h3⟩, h4⟩, h5⟩ := h1
    simp only [Bool.false_eq_true, iff_false]
    rintro ⟨e, _⟩
    have hb : ∀ {k o : Nat}, (k.beq 3 = false ∨ opB o = true) → (k = 3 → opB o = true) := fun h e => by
      subst e; rcases h with h | h
      · cases h
      · exact h
    obtain ⟨b, r, k1, k2⟩ := hd0 W ⟨kind, op, n, name, args, fact⟩ h1 (hb h4)
    obtain ⟨b', r', k3, k4⟩ := hd0 W ⟨kind', op', n', name', args', fact'⟩ h2 (hb h5)
    rw [k1, k3] at e
    obtain ⟨rfl, _⟩ := List.cons.inj e
    have := fb_inj h1 h2 k2 k4
    subst this
    rw [Nat.beq_refl] at h3; cases h3
/-! The store. -/
theorem in64_ok {a : Int} (h : in64 a = true) : I64 a := by unfold I64; exact of_decide_eq_true h
theorem allI_ok {p : Int → Bool} : ∀ {l : List Int}, allI p l = true → ∀ a ∈ l, p a = true
  | [], _, a, h => by cases h
  | b :: r, h, a, ha => by
    simp only [allI, Bool.and_eq_true] at h
    rcases List.mem_cons.1 ha with rfl | ha
    · exact h.1
    · exact allI_ok h.2 a ha
def SL (W : Int) (L : List SN) : List En.Dop.Nod := L.map (evN W)
abbrev res (W : Int) (r : Int) (L : List SN) : (Int × Unit) × ((List En.Dop.Nod × (List (List UInt8 × Int) × Unit)) × Unit) := ((r, ()), ((SL W L, (byF 0 (SL W L), ())), ()))
section
variable {W : Int} (hW : Wk W)
include hW
theorem findS_ok {x : SN} : ∀ {L : List SN} {k : Nat} {o : Option Nat}, findS x k L = some o → findK k (keyOf (evN W x)) (SL W L) = o
  | [], k, o, h => by cases h; rfl
  | y :: r, k, o, h => by
    simp only [findS, Option.bind_eq_some_iff] at h
    obtain ⟨b, h1, h2⟩ := h
    have h3 := sameN_ok hW h1
    simp only [SL, List.map_cons, findK]
    split at h2
    · cases h2; rw [if_pos (h3.2 rfl)]
    · rw [if_neg (fun e => by have := h3.1 e; cases this)]; exact findS_ok h2
theorem okN_ok {x : SN} (h : okN x = true) : Ok (evN W x) := by
  simp only [okN, Bool.and_eq_true, Nat.ble_eq, Bool.or_eq_true, Bool.not_eq_true'] at h
  obtain ⟨⟨⟨⟨⟨⟨h1, h2⟩, h3⟩, h4⟩, h5⟩, h6⟩, h7⟩ := h
  have hz := inZ_ok hW h2
  refine ⟨fun e => ?_, ?_, h3, h4, h5, fun a ha => in64_ok (allI_ok h6 a ha), fun a ha => in64_ok (allI_ok h7 a ha)⟩
  · have e' : x.kind = 3 := by have : ((x.kind : Nat) : Int) = 3 := e; omega
    rcases h1 with h1 | h1
    · rw [e'] at h1; cases h1
    · have := opB_ok h1
      show (1 : Int) ≤ (x.op : Int) ∧ (x.op : Int) ≤ 23
      omega
  · show I64 (ev W x.n)
    unfold I64; omega
theorem put_ok {x : SN} {L L' : List SN} {i : Nat} (h : put x L = some (i, L')) : Tryd.m12 (evN W x) (SL W L) (byF 0 (SL W L)) = some (res W (I i) L') := by
  obtain ⟨h1, h2⟩ := guardB_ok h
  simp only [Bool.and_eq_true, Nat.ble_eq, Option.bind_eq_some_iff] at h1 h2
  obtain ⟨o, h3, h4⟩ := h2
  have hlen : (SL W L).length = L.length := List.length_map _
  rw [put_v _ (okN_ok hW h1.1) _ (by omega), findS_ok hW h3]
  split at h4
  · cases h4; rfl
  · cases h4
    show some ((I (SL W L).length, ()), ((SL W L ++ [evN W x], (byF 0 (SL W L ++ [evN W x]), ())), ())) = _
    have e : SL W L ++ [evN W x] = SL W (L ++ [x]) := by simp [SL]
    rw [hlen, e]
theorem num_ok {z : Z} {L L' : List SN} {i : Nat} (h : num z L = some (i, L')) {n : Int} (hn : wr n = ev W z) : Tryd.m8 n (SL W L) (byF 0 (SL W L)) = some (res W (I i) L') := by
  obtain ⟨h1, h2⟩ := guardB_ok h
  have := put_ok hW h2
  rw [Tryd.m8_eq, m21_v, hn]
  have e : Dop.Nod.mk (0 : Int) (0 : Int) (ev W z) [] [] [] = evN W ⟨0, 0, z, [], [], []⟩ := rfl
  simp only [Option.bind]
  rw [e, this]
theorem num_ok' {z : Z} {L L' : List SN} {i : Nat} (h : num z L = some (i, L')) : Tryd.m8 (ev W z) (SL W L) (byF 0 (SL W L)) = some (res W (I i) L') :=
  num_ok hW h (wr_id (inZ_ok hW (guardB_ok h).1))
theorem var_ok {name : List UInt8} {L L' : List SN} {i : Nat} (h : var name L = some (i, L')) : Tryd.m6 name (SL W L) (byF 0 (SL W L)) = some (res W (I i) L') := by
  have := put_ok hW h
  have e : Dop.Nod.mk (1 : Int) (0 : Int) (0 : Int) name [] [] = evN W ⟨1, 0, .c 0, name, [], []⟩ := rfl
  rw [Tryd.m6_eq, e, this]
  simp only [Option.bind]
end
/-! Terms looked at. -/
theorem node_ok {W : Int} {t : Nat} {L : List SN} {x : SN} (h : nodeAt t L = some x) : t < (SL W L).length ∧ (SL W L).getD t Dop.d4 = evN W x := by
  unfold nodeAt at h
  rw [nth_eq] at h
  have hl : t < L.length := by
    apply Classical.byContradiction
    intro hn
    rw [List.getElem?_eq_none (by omega)] at h; cases h
  refine ⟨by simpa [SL] using hl, ?_⟩
  simp [SL, List.getD, List.getElem?_map, h]
theorem m41_v (L : List En.Dop.Nod) (b : List (List UInt8 × Int)) (s : List Int) (hs : s.length ≤ 20) (ha : ∀ a ∈ s, 0 ≤ a ∧ a < I L.length) : ∀ n k : Nat, k + n = s.length →
    Tryd.m41_29_2 s (I s.length) (I k) L b = some (((-1 : Int), ()), (((), ()), ((L, (b, ())), ())))
  | 0, k, e => by
    have e : k = s.length := by omega
    subst e
    rw [Tryd.m41_29_2_eq]
    simp only [I_nlt, decide_false, Bool.false_eq_true, if_false]
  | n + 1, k, e => by
    have hk : k < s.length := by omega
    have hm := ha _ (show s.getD k 0 ∈ s by simp [List.getD, hk])
    have h29 : Tryd.m29 (s.getD k 0) L b = some ((false, ()), (((), ()), ((L, (b, ())), ()))) := by
      rw [Tryd.m29_eq]
      have h1 : ¬ s.getD k 0 < 0 := by omega
      have h2 : ¬ I L.length ≤ s.getD k 0 := by omega
      simp only [h1, h2, decide_false, Bool.false_eq_true, if_false]
    rw [Tryd.m41_29_2_eq]
    simp only [I_lt hk, I_nn, I_nat, I_s, I_in hk (show s.length < 1000000 by omega), and_self, decide_true, if_true, h29, Option.bind, Bool.false_eq_true, if_false]
    exact m41_v L b s hs ha n (k + 1) (by omega)
theorem m15_v (L : List En.Dop.Nod) (b : List (List UInt8 × Int)) (s : List Int) (hs : s.length ≤ 20) (ha : ∀ a ∈ s, 0 ≤ a ∧ a < I L.length) : Tryd.m15 s L b = some ((true, ()), ((L, (b, ())), ())) := by
  have := m41_v L b s hs ha s.length 0 (by omega)
  have e0 : I 0 = 0 := rfl
  rw [e0] at this
  rw [Tryd.m15_eq, Tryd.m28_29_eq, Tryd.m41_29_eq]
  simp only [this, Option.bind, show ¬ ((0 : Int) ≤ -1) by omega, decide_false, Bool.not_false]
section
variable {W : Int} (hW : Wk W)
include hW
/-- Is it known, and what. -/
def knV (W : Int) : Option Z → Int × (Bool × Unit)
  | some z => (ev W z, (true, ()))
  | none => (0, (false, ()))
omit hW in
theorem kn_ok {t : Nat} {L : List SN} {k : Option Z} (h : kn t L = some k) (b : List (List UInt8 × Int)) : Tryd.m16 (I t) (SL W L) b = some (knV W k, ((SL W L, (b, ())), ())) := by
  simp only [kn, Option.bind_eq_some_iff] at h
  obtain ⟨x, h1, h2⟩ := h
  obtain ⟨h3, h4⟩ := node_ok (W := W) h1
  rw [Tryd.m16_eq, m15_v _ _ _ (by simp) (by intro a ha; rw [List.mem_singleton.1 ha]; exact ⟨I_nn _, I_lt h3⟩)]
  simp only [Option.bind, Bool.not_true, Bool.false_eq_true, if_false, I_nn, I_lt h3, and_self, decide_true, if_true, I_nat, h3, h4]
  split at h2
  · rename_i hk
    cases h2
    have e : (evN W x).kind = 0 := by show (x.kind : Int) = 0; rw [hk]; rfl
    simp only [e, decide_true, Bool.not_true, Bool.false_eq_true, if_false]
    rfl
  · rename_i hk
    cases h2
    have e : ¬ (evN W x).kind = 0 := fun e => hk (by have : (x.kind : Int) = 0 := e; omega)
    simp only [e, decide_false, Bool.not_false, if_true]
    rfl
omit hW in
theorem linear_ok {t : Nat} {L : List SN} {y : SN} (h : linear t L = some y) (b : List (List UInt8 × Int)) : Tryd.m18 (I t) (SL W L) b = some ((evN W y, ()), ((SL W L, (b, ())), ())) := by
  simp only [linear, Option.bind_eq_some_iff] at h
  obtain ⟨nd, h1, h2⟩ := h
  obtain ⟨h3, h4⟩ := node_ok (W := W) h1
  rw [Tryd.m18_eq]
  simp only [I_nn, I_lt h3, and_self, decide_true, if_true, I_nat, h3, h4]
  split at h2
  · rename_i hk
    cases h2
    have e : (evN W nd).kind = 0 := by show (nd.kind : Int) = 0; rw [hk]; rfl
    simp only [e, decide_true, if_true]
    rfl
  · rename_i hk
    have hy := Option.some.inj h2
    subst hy
    have e : (evN W nd).kind = 4 := by show (nd.kind : Int) = 4; rw [hk]; rfl
    simp only [e, show ¬ ((4 : Int) = 0) by omega, decide_true, decide_false, Bool.false_eq_true, if_false, if_true]
  · rename_i hk1 hk2
    cases h2
    have e1 : ¬ (evN W nd).kind = 0 := fun e => hk1 (by have : (nd.kind : Int) = 0 := e; omega)
    have e2 : ¬ (evN W nd).kind = 4 := fun e => hk2 (by have : (nd.kind : Int) = 4 := e; omega)
    simp only [e1, e2, decide_false, Bool.false_eq_true, if_false]
    rfl
omit hW in
theorem truth_ok {t : Nat} {L : List SN} {y : Bool} (h : truth t L = some y) (b : List (List UInt8 × Int)) : Tryd.m36 (I t) (SL W L) b = some ((y, ()), ((SL W L, (b, ())), ())) := by
  simp only [truth, Option.bind_eq_some_iff] at h
  obtain ⟨x, h1, h2⟩ := h
  obtain ⟨h3, h4⟩ := node_ok (W := W) h1
  cases h2
  rw [Tryd.m36_eq]
  have ek : decide ((evN W x).kind = 3) = Nat.beq x.kind 3 := by
    rw [Bool.eq_iff_iff, decide_eq_true_iff, Nat.beq_eq]
    show (x.kind : Int) = 3 ↔ _
    omega
  have eo : ∀ k : Nat, decide ((evN W x).op = (k : Int)) = Nat.beq x.op k := fun k => by
    rw [Bool.eq_iff_iff, decide_eq_true_iff, Nat.beq_eq]
    show (x.op : Int) = k ↔ _
    omega
  have e14 := eo 14
  have e16 := eo 16
  have e18 := eo 18
  simp only [I_nn, I_lt h3, and_self, decide_true, if_true, I_nat, h3, h4, ek]
  cases Nat.beq x.kind 3
  · rfl
  · simp only [if_true, Bool.true_and]
    show (if decide ((evN W x).op = ((14 : Nat) : Int)) = true then _ else (if decide ((evN W x).op = ((16 : Nat) : Int)) = true then _ else some ((decide ((evN W x).op = ((18 : Nat) : Int)), ()), _))) = _
    rw [e14, e16, e18]
    cases Nat.beq x.op 14 <;> cases Nat.beq x.op 16 <;> rfl
end
end Go.Proofs.Law.Sy
