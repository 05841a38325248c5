/-
  Layer 17, plain: the two laws.
-/
import Derived.Test.YtpjjpcgnogpdmaaDoorTmE
namespace Go.Proofs.Law.Sy
open Go Go.En Go.Proofs Go.Proofs.Law

theorem fu_eq : FU = 999999998 + 2 := rfl
theorem byF_nil (W : Int) : byF 0 (SL W []) = [] := rfl
section
variable {W : Int} (hW : Wk W)
include hW
theorem ap_ok {op a b : Nat} {L L' : List SN} {i : Nat} (h : apply op a b L = some (i, L')) : Tryd.m7 FU op (I a) (I b) (SL W L) (byF 0 (SL W L)) = some (res W (I i) L') := by
  rw [fu_eq]; exact apply_ok hW _ h
theorem ze_ok {a : Nat} (b : Int) {L L' : List SN} {i : Nat} (h : zero a L = some (i, L')) : Tryd.m7 FU 23 (I a) b (SL W L) (byF 0 (SL W L)) = some (res W (I i) L') := by
  rw [fu_eq]; exact zero_ok hW b _ h
theorem z9_ok {a : Nat} {L L' : List SN} {i : Nat} (h : zero a L = some (i, L')) : Tryd.m9 (I a) (SL W L) (byF 0 (SL W L)) = some ((I i, ()), (((), ()), ((SL W L', (byF 0 (SL W L'), ())), ()))) := by
  rw [Tryd.m9_eq, ze_ok hW _ h]; rfl
theorem nm_ok2 {k : Int} {L L' : List SN} {i : Nat} (h : num (.c k) L = some (i, L')) : Tryd.m8 k (SL W L) (byF 0 (SL W L)) = some (res W (I i) L') := by
  have q := num_ok' hW h
  rw [show ev W (.c k) = k from rfl] at q
  exact q
end
theorem I_iff {a b : Nat} : decide (I a = I b) = Nat.beq a b := by
  rw [Bool.eq_iff_iff, decide_eq_true_iff, Nat.beq_eq]
  simp only [I_eq]; omega
theorem w1 : Wk 1 := ⟨by omega, by omega⟩
/-- The door is awake. -/
theorem awake_gen {W : Int} (hW : Wk W) : Tryd.m10 = some ((true, ()), ()) := by
  have h := awake_v
  simp only [awake, Option.bind_eq_some_iff] at h
  obtain ⟨x, h1, y, h2, t, h3, d, h4, two, h5, one, h6, x1, h7, a, h8, two', h9, b, h10, z, h11, k, h12, h13⟩ := h
  have q1 := var_ok hW (i := x.1) (L' := x.2) h1
  have q2 := var_ok hW (i := y.1) (L' := y.2) h2
  have q3 := ap_ok hW (i := t.1) (L' := t.2) h3
  have q4 := ap_ok hW (i := d.1) (L' := d.2) h4
  have q5 := nm_ok2 hW (i := two.1) (L' := two.2) h5
  have q6 := nm_ok2 hW (i := one.1) (L' := one.2) h6
  have q7 := ap_ok hW (i := x1.1) (L' := x1.2) h7
  have q8 := ap_ok hW (i := a.1) (L' := a.2) h8
  have q9 := nm_ok2 hW (i := two'.1) (L' := two'.2) h9
  have q10 := ap_ok hW (i := b.1) (L' := b.2) h10
  have q11 := ap_ok hW (i := z.1) (L' := z.2) h11
  have q12 := kn_ok (W := W) h12 (byF 0 (SL W z.2))
  rw [byF_nil, show SL W [] = [] from rfl] at q1
  rw [show ((1 : Nat) : Int) = 1 from rfl] at q3 q7
  rw [show ((2 : Nat) : Int) = 2 from rfl] at q4 q11
  rw [show ((3 : Nat) : Int) = 3 from rfl] at q8 q10
  split at h13
  case h_2 => cases h13
  simp only [Option.some.injEq] at h13
  rw [Tryd.m10_eq, q1, Option.bind_some, q2, Option.bind_some, q3, Option.bind_some, q4, Option.bind_some, q5, Option.bind_some, q6, Option.bind_some, q7, Option.bind_some, q8, Option.bind_some, q9, Option.bind_some, q10, Option.bind_some, q11, Option.bind_some, q12, Option.bind_some]
  show (if decide (I d.1 = I y.1) = true then if decide ((2 : Int) = 2) = true then some ((true, ()), ()) else some ((false, ()), ()) else some ((false, ()), ())) = _
  rw [I_iff, h13, if_pos rfl, if_pos (by decide)]
theorem awake_ok : Tryd.m10 = some ((true, ()), ()) := awake_gen w1
theorem m8_wr (n : Int) (L : List En.Dop.Nod) (b : List (List UInt8 × Int)) : Tryd.m8 n L b = Tryd.m8 (wr n) L b := by
  rw [Tryd.m8_eq, Tryd.m8_eq, m21_v, m21_v, wr_wr]
theorem truths_ok {W : Int} (hW : Wk W) {z : Z} {op : Nat} (n : Int) (hn : wr n = ev W z) (h : truths z op = some true) (t1 : Int) (ht : (([14, 16, 18, 15, 17, 19, 23] : List Int).getD (t1.tmod 7).toNat 0) = op) (h0 : 0 ≤ t1) (hop : op = 23 ∨ op ≠ 23) : Tryd.m3 n t1 = some ((true, ()), ()) := by
  simp only [truths, Option.bind_eq_some_iff] at h
  obtain ⟨x, h1, y0, h2, m, h3, y, h4, t, h5, z1, h6, z2, h7, z3, h8, l1, h9, l2, h10, l3, h11, u1, h12, u2, h13, u3, h14, e1, h15, e2, h16, e3, h17, h18⟩ := h
  have q1 := var_ok hW (i := x.1) (L' := x.2) h1
  have q2 := var_ok hW (i := y0.1) (L' := y0.2) h2
  have q3 := num_ok hW (i := m.1) (L' := m.2) h3 hn
  have q4 := ap_ok hW (i := y.1) (L' := y.2) h4
  have q5 : Tryd.m7 FU op (I x.1) (I y.1) (SL W y.2) (byF 0 (SL W y.2)) = some (res W (I t.1) t.2) := by
    split at h5
    · exact ze_ok hW _ (i := t.1) (L' := t.2) h5
    · exact ap_ok hW (i := t.1) (L' := t.2) h5
  have q6 := z9_ok hW (i := z1.1) (L' := z1.2) h6
  have q7 := z9_ok hW (i := z2.1) (L' := z2.2) h7
  have q8 := z9_ok hW (i := z3.1) (L' := z3.2) h8
  have q9 := ap_ok hW (i := l1.1) (L' := l1.2) h9
  have q10 := ap_ok hW (i := l2.1) (L' := l2.2) h10
  have q11 := z9_ok hW (i := l3.1) (L' := l3.2) h11
  have q12 := ap_ok hW (i := u1.1) (L' := u1.2) h12
  have q13 := ap_ok hW (i := u2.1) (L' := u2.2) h13
  have q14 := z9_ok hW (i := u3.1) (L' := u3.2) h14
  have q15 := ap_ok hW (i := e1.1) (L' := e1.2) h15
  have q16 := ap_ok hW (i := e2.1) (L' := e2.2) h16
  have q17 := z9_ok hW (i := e3.1) (L' := e3.2) h17
  rw [byF_nil, show SL W [] = [] from rfl] at q1
  rw [show ((1 : Nat) : Int) = 1 from rfl] at q4
  rw [show ((16 : Nat) : Int) = 16 from rfl] at q9
  rw [show ((17 : Nat) : Int) = 17 from rfl] at q10
  rw [show ((18 : Nat) : Int) = 18 from rfl] at q12
  rw [show ((19 : Nat) : Int) = 19 from rfl] at q13
  rw [show ((15 : Nat) : Int) = 15 from rfl] at q15
  rw [show ((14 : Nat) : Int) = 14 from rfl] at q16
  simp only [Option.some.injEq, Bool.and_eq_true, Bool.not_eq_true'] at h18
  obtain ⟨⟨⟨⟨c1, c2⟩, c3⟩, c4⟩, c5⟩ := h18
  have m1 : 0 ≤ t1.tmod 7 ∧ t1.tmod 7 < 7 := ⟨Int.tmod_nonneg _ h0, Int.tmod_lt_of_pos _ (by omega)⟩
  have m2 : 0 ≤ t1.tmod 7 ∧ t1.tmod 7 < I ([14, 16, 18, 15, 17, 19, 23] : List Int).length := m1
  have m3 : (t1.tmod 7).toNat < ([14, 16, 18, 15, 17, 19, 23] : List Int).length := by show _ < 7; omega
  rw [Tryd.m3_eq, q1]
  simp only [Option.bind_some, q2, q3, q4, show ((7 : Int) ≠ 0) by omega, m2, and_self, m3, ht, q5, I_nn, q6, q7, q8, q9, q10, q11, q12, q13, q14, q15, q16, q17, I_iff, c1, c2, c3, c4, c5, awake_ok, ne_eq, not_false_eq_true, decide_true, Bool.not_false, if_true]
theorem TermTruths_ok (n t1 : Int) (h0 : 0 ≤ t1) : Tryd.m3 n t1 = some ((true, ()), ()) := by
  have hr := wr_range n
  have hm : 0 ≤ t1.tmod 7 ∧ t1.tmod 7 < 7 := ⟨Int.tmod_nonneg _ h0, Int.tmod_lt_of_pos _ (by omega)⟩
  have ha := List.all_eq_true.1 truths_v
  have hop : ∃ op ∈ ([14, 16, 18, 15, 17, 19, 23] : List Nat), (([14, 16, 18, 15, 17, 19, 23] : List Int).getD (t1.tmod 7).toNat 0) = (op : Int) := by
    rcases (by omega : (t1.tmod 7).toNat = 0 ∨ (t1.tmod 7).toNat = 1 ∨ (t1.tmod 7).toNat = 2 ∨ (t1.tmod 7).toNat = 3 ∨ (t1.tmod 7).toNat = 4 ∨ (t1.tmod 7).toNat = 5 ∨ (t1.tmod 7).toNat = 6) with h | h | h | h | h | h | h <;> rw [h]
    · exact ⟨14, by decide, rfl⟩
    · exact ⟨16, by decide, rfl⟩
    · exact ⟨18, by decide, rfl⟩
    · exact ⟨15, by decide, rfl⟩
    · exact ⟨17, by decide, rfl⟩
    · exact ⟨19, by decide, rfl⟩
    · exact ⟨23, by decide, rfl⟩
  obtain ⟨op, ho, ht⟩ := hop
  have h := ha op ho
  simp only [Bool.and_eq_true, beq_iff_eq] at h
  by_cases hz : wr n = 0
  · exact truths_ok w1 (z := .c 0) n hz h.2 t1 ht h0 (by omega)
  · exact truths_ok (W := wr n) ⟨hr, hz⟩ (z := .w) n rfl h.1 t1 ht h0 (by omega)
end Go.Proofs.Law.Sy
