/-
  Layer 17, plain: what an operation tells of terms, as it is reckoned.
-/
import Derived.Test.YtpjjpcgnogpdmaaDoorTmD
namespace Go.Proofs.Law.Sy
open Go Go.En Go.Proofs Go.Proofs.Law

theorem m13_v (op : Int) : Tryd.m13 op = some ((decide (20 ≤ op ∧ op ≤ 23), ()), ()) := by
  rw [Tryd.m13_eq]
  by_cases h : (20 : Int) ≤ op
  · simp only [h, decide_true, if_true, true_and]
  · simp only [h, decide_false, Bool.false_eq_true, if_false, false_and]
theorem m14_v (op : Int) : Tryd.m14 op = some ((decide (1 ≤ op ∧ op ≤ 19), ()), ()) := by
  rw [Tryd.m14_eq]
  by_cases h : (1 : Int) ≤ op
  · simp only [h, decide_true, if_true, true_and]
  · simp only [h, decide_false, Bool.false_eq_true, if_false, false_and]
section
variable {W : Int} (hW : Wk W)
include hW
theorem equal_ok {x : SN} {L L' : List SN} {i : Nat} (h : equal x L = some (i, L')) : Tryd.m22 (evN W x) (SL W L) (byF 0 (SL W L)) = some (res W (I i) L') := by
  have hz := zeroZ_ok hW x.n
  have h2 : eqn2 x L = some (i, L') → Tryd.m22_10 (SL W L) (byF 0 (SL W L)) (evN W x) = some (res W (I i) L') := fun h => eqn2_ok hW h
  obtain ⟨kind, op, n, name, args, fact⟩ := x
  simp only at hz
  unfold equal at h
  simp only at h
  rw [Tryd.m22_eq]
  split at h
  · have e : I (evN W ⟨kind, op, n, name, [], fact⟩).args.length = 0 := rfl
    have e2 : (evN W ⟨kind, op, n, name, [], fact⟩).n = ev W n := rfl
    have k := num_ok' hW h
    simp only [e, e2, decide_true, if_true, ← hz]
    cases hq : zeroZ n with
    | true =>
      rw [hq, show ev W (.c 1) = 1 from rfl] at k
      simp only [if_true, k, Option.bind_some]
    | false =>
      rw [hq, show ev W (.c 0) = 0 from rfl] at k
      simp only [Bool.false_eq_true, if_false, k, Option.bind_some]
  · rename_i a
    obtain ⟨h3, h4⟩ := guardB_ok h
    have h3 := of_decide_eq_true h3
    simp only [Option.bind_eq_some_iff] at h4
    obtain ⟨t, h5, h6⟩ := h4
    have k := truth_ok (W := W) h5 (byF 0 (SL W L))
    have ea : I a.toNat = a := by show ((a.toNat : Nat) : Int) = a; omega
    rw [ea] at k
    have e : I (evN W ⟨kind, op, n, name, [a], fact⟩).args.length = 1 := rfl
    have e5 : (evN W ⟨kind, op, n, name, [a], fact⟩).args.getD (Int.toNat 0) 0 = a := by simp [evN]
    simp only [e, e5, show ¬ ((1 : Int) = 0) by omega, decide_false, Bool.false_eq_true, if_false, decide_true, if_true, Int.le_refl, true_and, show (0 : Int) < 1 by omega, k, Option.bind_some]
    split at h6
    · simp only [Bool.false_eq_true, if_false]
      exact h2 h6
    · simp only [if_true]
      split at h6
      case h_2 => cases h6
      rename_i f fs
      obtain ⟨h7, h8⟩ := guardB_ok h6
      have h7' := in32_ok.1 h7
      have e3 : (0 : Int) < I (evN W ⟨kind, op, n, name, [a], f :: fs⟩).fact.length := by show (0 : Int) < ((fs.length + 1 : Nat) : Int); omega
      have e4 : (evN W ⟨kind, op, n, name, [a], f :: fs⟩).fact.getD (Int.toNat 0) 0 = f := by simp [evN]
      have r1 : inR (-f) = true := by rw [inR_iff]; omega
      simp only [e3, e4, r1, decide_true, if_true]
      split at h8
      case h_2 => cases h8
      rename_i hf
      have hf : f = 1 ∨ f = -1 := by
        rcases Bool.or_eq_true_iff.1 hf with h | h
        · exact .inl (eqI_ok.1 h)
        · exact .inr (eqI_ok.1 h)
      have habs : (if f < -f then -f else f) = 1 := by split <;> omega
      simp only [habs, decide_true, if_true]
      split at h8
      case h_2 => cases h8
      rename_i k0
      have e6 : (evN W ⟨kind, op, .c k0, name, [a], f :: fs⟩).n = k0 := rfl
      simp only [e6]
      split at h8
      · rename_i hk
        have q := less1_ok hW h8
        rw [ea] at q
        simp only [eqI_ok.1 hk, decide_true, if_true, q, Option.bind_some]
      · rename_i hk
        simp only [eqI_no.1 hk, decide_false, Bool.false_eq_true, if_false]
        split at h8
        case h_2 => cases h8
        rename_i hk2
        simp only [Option.some.injEq, Prod.mk.injEq] at h8
        obtain ⟨rfl, rfl⟩ := h8
        simp only [eqI_ok.1 hk2, decide_true, if_true]
        rw [ea]
  · rename_i hn0 hn1
    have hl : ¬ args.length = 0 ∧ ¬ args.length = 1 := by
      match args, hn0, hn1 with
      | [], h, _ => exact absurd rfl h
      | [a], _, h => exact absurd rfl (h a)
      | _ :: _ :: _, _, _ => exact ⟨by simp, by simp⟩
    have e0 : ¬ I (evN W ⟨kind, op, n, name, args, fact⟩).args.length = 0 := fun e => hl.1 (by have : ((args.length : Nat) : Int) = 0 := e; omega)
    have e1 : ¬ I (evN W ⟨kind, op, n, name, args, fact⟩).args.length = 1 := fun e => hl.2 (by have : ((args.length : Nat) : Int) = 1 := e; omega)
    simp only [e0, e1, decide_false, Bool.false_eq_true, if_false]
    exact h2 h
theorem less_ok {op a b : Nat} {L L' : List SN} {i : Nat} (n : Nat) (ho : op = 16 ∨ op = 18) (h : less op a b L = some (i, L')) : Tryd.m7_44 n op (I a) (I b) (SL W L) (byF 0 (SL W L)) = some (res W (I i) L') := by
  unfold less at h
  rw [Tryd.m7_44_eq]
  split at h
  · rename_i hab
    have hab := Nat.eq_of_beq_eq_true hab
    have k := num_ok' hW h
    rw [show ev W (.c 0) = 0 from rfl] at k
    simp only [hab, decide_true, if_true, k, Option.bind_some]
  · rename_i hab
    have hne : ¬ I a = I b := fun e => by
      have : a = b := by simp only [I_eq] at e; omega
      rw [this, Nat.beq_refl] at hab; cases hab
    have k := put_ok hW h
    have ho' : ¬ (20 ≤ (op : Int) ∧ (op : Int) ≤ 23) := by omega
    have e : evN W ⟨3, op, .c 0, [], [(a : Int), (b : Int)], []⟩ = Dop.Nod.mk (3 : Int) op (0 : Int) [] (I a :: I b :: []) [] := rfl
    rw [e] at k
    simp only [hne, decide_false, Bool.false_eq_true, if_false]
    rw [Tryd.m7_50_eq, m13_v]
    simp only [Option.bind_some, ho', decide_false, Bool.false_eq_true, if_false]
    rw [Tryd.m7_53_eq, k]
    rfl
theorem apply1_ok {op a b : Nat} {L L' : List SN} {i : Nat} {ka kb : Option Z} (n : Nat) (h : apply1 op a b L ka kb = some (i, L')) :
    Tryd.m7_13 n op (I a) (I b) (knV W ka).1 (knV W ka).2.1 (knV W kb).1 (knV W kb).2.1 (SL W L) (byF 0 (SL W L)) = some (res W (I i) L') := by
  simp only [apply1, Option.bind_eq_some_iff] at h
  obtain ⟨x, h1, y, h2, h3⟩ := h
  have k1 := linear_ok (W := W) h1 (byF 0 (SL W L))
  have k2 := linear_ok (W := W) h2 (byF 0 (SL W L))
  rw [Tryd.m7_13_eq, k1]
  simp only [Option.bind_some, k2]
  split at h3
  · simp only [Option.bind_eq_some_iff] at h3
    obtain ⟨z, h4, h5⟩ := h3
    simp only [show ((1 : Nat) : Int) = 1 from rfl, decide_true, if_true, add_ok hW h4, Option.bind_some, made_ok hW h5]
  · simp only [Option.bind_eq_some_iff] at h3
    obtain ⟨z, h4, h5⟩ := h3
    simp only [show ((2 : Nat) : Int) = 2 from rfl, Int.reduceEq, decide_false, Bool.false_eq_true, if_false, decide_true, if_true, add_ok hW h4, Option.bind_some, made_ok hW h5]
  · simp only [show ((3 : Nat) : Int) = 3 from rfl, Int.reduceEq, decide_false, Bool.false_eq_true, if_false, decide_true, if_true]
    split at h3
    · rename_i k
      simp only [Option.bind_eq_some_iff] at h3
      obtain ⟨z, h4, h5⟩ := h3
      have q := add_ok hW h4
      rw [lin0_ev, show ev W (.c 0) = 0 from rfl] at q
      simp only [knV, if_true, show ev W (.c k) = k from rfl, q, Option.bind_some, made_ok hW h5]
    · rename_i k
      simp only [Option.bind_eq_some_iff] at h3
      obtain ⟨z, h4, h5⟩ := h3
      have q := add_ok hW h4
      rw [lin0_ev, show ev W (.c 0) = 0 from rfl] at q
      simp only [knV, Bool.false_eq_true, if_false, if_true, show ev W (.c k) = k from rfl, q, Option.bind_some, made_ok hW h5]
    · cases h3
  · simp only [Option.bind_eq_some_iff] at h3
    obtain ⟨z, h4, h5⟩ := h3
    simp only [show ((14 : Nat) : Int) = 14 from rfl, Int.reduceEq, decide_false, Bool.false_eq_true, if_false, decide_true, if_true, add_ok hW h4, Option.bind_some, equal_ok hW h5]
  · simp only [Option.bind_eq_some_iff] at h3
    obtain ⟨z, h4, p, h5, h6⟩ := h3
    simp only [show ((15 : Nat) : Int) = 15 from rfl, Int.reduceEq, decide_false, Bool.false_eq_true, if_false, decide_true, if_true, add_ok hW h4, Option.bind_some, equal_ok hW (i := p.1) (L' := p.2) h5, less1_ok hW h6]
  · have q := less_ok hW n (.inl rfl) h3
    rw [show ((16 : Nat) : Int) = 16 from rfl] at q ⊢
    simp only [Int.reduceEq, decide_false, Bool.false_eq_true, if_false, decide_true, if_true, q]
  · have q := less_ok hW n (.inr rfl) h3
    rw [show ((18 : Nat) : Int) = 18 from rfl] at q ⊢
    simp only [Int.reduceEq, decide_false, Bool.false_eq_true, if_false, decide_true, if_true, q]
  · cases h3
omit hW in
theorem kn_lt {t : Nat} {L : List SN} {k : Option Z} (h : kn t L = some k) : t < (SL W L).length := by
  simp only [kn, Option.bind_eq_some_iff] at h
  obtain ⟨x, h1, _⟩ := h
  exact (node_ok (W := W) h1).1
omit hW in
theorem two_v {a b : Nat} {L : List SN} {ka kb : Option Z} (ha : kn a L = some ka) (hb : kn b L = some kb) (B : List (List UInt8 × Int)) : Tryd.m15 (I a :: I b :: []) (SL W L) B = some ((true, ()), ((SL W L, (B, ())), ())) :=
  m15_v _ _ _ (by simp) (by
    intro c hc
    rcases List.mem_cons.1 hc with rfl | hc
    · exact ⟨I_nn _, I_lt (kn_lt ha)⟩
    · rw [List.mem_singleton.1 hc]; exact ⟨I_nn _, I_lt (kn_lt hb)⟩)
omit hW in
/-- An operation of two, not both known. -/
theorem pre_ok {op a b : Nat} {L : List SN} {ka kb : Option Z} (n : Nat) (ho : 1 ≤ op ∧ op ≤ 19) (ha : kn a L = some ka) (hb : kn b L = some kb) (hk : ka = none ∨ kb = none) :
    Tryd.m7 (n + 1) op (I a) (I b) (SL W L) (byF 0 (SL W L)) = Tryd.m7_13 n op (I a) (I b) (knV W ka).1 (knV W ka).2.1 (knV W kb).1 (knV W kb).2.1 (SL W L) (byF 0 (SL W L)) := by
  have h1 : ¬ (20 ≤ (op : Int) ∧ (op : Int) ≤ 23) := by omega
  have h2 : (1 ≤ (op : Int) ∧ (op : Int) ≤ 19) := by omega
  rw [Tryd.m7_eq, m13_v]
  simp only [Option.bind_some, h1, decide_false, Bool.false_eq_true, if_false]
  rw [Tryd.m7_3_eq, m14_v]
  simp only [Option.bind_some, h2, and_self, decide_true, Bool.not_true, Bool.false_eq_true, if_false, two_v ha hb, kn_ok ha, kn_ok hb]
  rcases hk with rfl | rfl
  · simp only [knV, Bool.false_eq_true, if_false]
  · cases ka with
    | none => simp only [knV, Bool.false_eq_true, if_false]
    | some z => simp only [knV, Bool.false_eq_true, if_false, if_true]
omit hW in
theorem apply1_lin {op a b : Nat} {L L' : List SN} {i : Nat} {ka kb : Option Z} (h : apply1 op a b L ka kb = some (i, L')) : (∃ x, linear a L = some x) ∧ ∃ y, linear b L = some y := by
  simp only [apply1, Option.bind_eq_some_iff] at h
  obtain ⟨x, h1, y, h2, _⟩ := h
  exact ⟨⟨x, h1⟩, ⟨y, h2⟩⟩
theorem applyB_ok {op a b : Nat} {L L' : List SN} {i : Nat} {ka kb : Option Z} (n : Nat) (ha : kn a L = some ka) (hb : kn b L = some kb) (hk : ka = none ∨ kb = none) (h : (match op with
    | 17 => (apply1 16 b a L kb ka).bind fun p => less1 p.1 p.2
    | 19 => (apply1 18 b a L kb ka).bind fun p => less1 p.1 p.2
    | _ => apply1 op a b L ka kb) = some (i, L')) : Tryd.m7 (n + 2) op (I a) (I b) (SL W L) (byF 0 (SL W L)) = some (res W (I i) L') := by
  split at h
  · simp only [Option.bind_eq_some_iff] at h
    obtain ⟨p, h1, h2⟩ := h
    obtain ⟨⟨y, l2⟩, ⟨x, l1⟩⟩ := apply1_lin h1
    have k1 := linear_ok (W := W) l1 (byF 0 (SL W L))
    have k2 := linear_ok (W := W) l2 (byF 0 (SL W L))
    have q := apply1_ok hW (i := p.1) (L' := p.2) n h1
    rw [← pre_ok n (by omega) hb ha hk.symm] at q
    rw [pre_ok (n + 1) (by omega) ha hb hk, Tryd.m7_13_eq, k1]
    rw [show ((16 : Nat) : Int) = 16 from rfl] at q
    simp only [Option.bind_some, k2, show ((17 : Nat) : Int) = 17 from rfl, Int.reduceEq, decide_false, Bool.false_eq_true, if_false, decide_true, if_true, q, less1_ok hW h2]
  · simp only [Option.bind_eq_some_iff] at h
    obtain ⟨p, h1, h2⟩ := h
    obtain ⟨⟨y, l2⟩, ⟨x, l1⟩⟩ := apply1_lin h1
    have k1 := linear_ok (W := W) l1 (byF 0 (SL W L))
    have k2 := linear_ok (W := W) l2 (byF 0 (SL W L))
    have q := apply1_ok hW (i := p.1) (L' := p.2) n h1
    rw [← pre_ok n (by omega) hb ha hk.symm] at q
    rw [pre_ok (n + 1) (by omega) ha hb hk, Tryd.m7_13_eq, k1]
    rw [show ((18 : Nat) : Int) = 18 from rfl] at q
    simp only [Option.bind_some, k2, show ((19 : Nat) : Int) = 19 from rfl, Int.reduceEq, decide_false, Bool.false_eq_true, if_false, decide_true, if_true, q, less1_ok hW h2]
  · have ho : 1 ≤ op ∧ op ≤ 19 := by
      have h' := h
      simp only [apply1, Option.bind_eq_some_iff] at h'
      obtain ⟨x, h1, y, h2, h3⟩ := h'
      split at h3
      case h_8 => cases h3
      all_goals omega
    rw [pre_ok (n + 1) ho ha hb hk]
    exact apply1_ok hW (n + 1) h
theorem apply_ok {op a b : Nat} {L L' : List SN} {i : Nat} (n : Nat) (h : apply op a b L = some (i, L')) : Tryd.m7 (n + 2) op (I a) (I b) (SL W L) (byF 0 (SL W L)) = some (res W (I i) L') := by
  simp only [apply, Option.bind_eq_some_iff] at h
  obtain ⟨ka, ha, kb, hb, h⟩ := h
  cases ka with
  | none => exact applyB_ok hW n ha hb (.inl rfl) h
  | some z =>
    cases kb with
    | none => exact applyB_ok hW n ha hb (.inr rfl) h
    | some z' => cases h
theorem zero_ok {a : Nat} (b : Int) {L L' : List SN} {i : Nat} (n : Nat) (h : zero a L = some (i, L')) : Tryd.m7 (n + 2) 23 (I a) b (SL W L) (byF 0 (SL W L)) = some (res W (I i) L') := by
  simp only [zero, Option.bind_eq_some_iff] at h
  obtain ⟨ka, ha, h⟩ := h
  split at h
  · cases h
  simp only [Option.bind_eq_some_iff] at h
  obtain ⟨x, h1, h2⟩ := h
  have k1 := linear_ok (W := W) h1 (byF 0 (SL W L))
  have q := equal_ok hW h2
  rw [Tryd.m7_eq, m13_v]
  have e1 : (20 : Int) ≤ 23 ∧ (23 : Int) ≤ 23 := by omega
  have e2 : ¬ ((1 : Int) ≤ 23 ∧ (23 : Int) ≤ 19) := by omega
  simp only [Option.bind_some, e1, and_self, decide_true, if_true]
  rw [Tryd.m7_3_eq, m14_v, m13_v]
  simp only [Option.bind_some, e1, e2, and_self, decide_true, decide_false, Bool.not_true, Bool.not_false, Bool.false_eq_true, if_false, if_true, two_v ha ha, kn_ok ha, knV]
  rw [Tryd.m7_13_eq, k1]
  simp only [Option.bind_some, k1, Int.reduceEq, decide_false, Bool.false_eq_true, if_false, decide_true, if_true, q]
end
end Go.Proofs.Law.Sy
