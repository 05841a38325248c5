/-
  TreeNodes is true of every text.
-/
import Derived.Test.YtkpokomghbhadaaDoorAw
set_option maxRecDepth 100000
namespace Go.Proofs.TR
open Go Go.En Go.En.Dop
theorem parse_len (L : List Tok) : (parse L).1.nodes.length ≤ 8192 ∧ (parse L).1.types.length ≤ 256 := by
  unfold parse
  simp only
  split
  · exact ⟨(whole.run (first L)).2.hN, (whole.run (first L)).2.hT⟩
  · exact ⟨Nat.zero_le _, Nat.zero_le _⟩
theorem at17 (n : Int) (t : Tre) : Tryd.m17 t n = some ((atN t n, ()), ()) := by
  rw [Tryd.m17_eq]
  unfold atN
  by_cases h : n < 0
  · rw [if_pos (decide_eq_true h), if_pos h]
  · rw [if_neg (by simpa using h), if_neg h]
    by_cases h2 : ((t.nodes.length : Nat) : Int) ≤ n
    · rw [if_pos (decide_eq_true h2), if_pos h2]
    · rw [if_neg (fun hh => h2 (of_decide_eq_true hh)), if_neg h2, if_pos (decide_eq_true (show (0 : Int) ≤ n ∧ n < ((t.nodes.length : Nat) : Int) by omega))]
def listN (t : Tre) : Nat → Int → List Int
  | 0, _ => []
  | m + 1, n => if (atN t n).kind = 20 then (atN t n).a :: listN t m (atN t n).b else []
theorem listN_len (t : Tre) : ∀ (m : Nat) (n : Int), (listN t m n).length ≤ m
  | 0, n => Nat.zero_le _
  | m + 1, n => by
    unfold listN
    split
    · simp only [List.length_cons]; have := listN_len t m (atN t n).b; omega
    · exact Nat.zero_le _
theorem list_loop (t : Tre) (ht : t.nodes.length ≤ 8192) : ∀ (m : Nat) (k : Nat) (n : Int) (out : List Int), k + m = t.nodes.length → out.length ≤ k → Tryd.m9_3 n out (I t.nodes.length) (I k) t = some ((out ++ listN t m n, ()), ())
  | 0, k, n, out, hk, ho => by
    rw [Tryd.m9_3_eq, if_neg (by simp only [I, decide_eq_true_eq]; omega)]
    simp [listN]
  | m + 1, k, n, out, hk, ho => by
    rw [Tryd.m9_3_eq, if_pos (decide_eq_true (by simp only [I]; omega))]
    refine (ob (at17 n t)).trans ?_
    unfold listN
    by_cases h : (atN t n).kind = 20
    · rw [if_pos h]
      refine (if_neg (show ¬ (!decide ((atN t n).kind = 20)) = true by rw [decide_eq_true h]; decide)).trans ?_
      refine (if_pos (show (andC none (room 8 (out.length + [(atN t n).a].length))) = true by simp only [andC, room, List.length_singleton, decide_eq_true_eq]; omega)).trans ?_
      refine (if_pos (inR_of (by simp only [I]; omega) (by simp only [I]; omega))).trans ?_
      have := list_loop t ht m (k + 1) (atN t n).b (out ++ [(atN t n).a]) (by omega) (by simp only [List.length_append, List.length_singleton]; omega)
      rw [List.append_assoc] at this
      exact this
    · rw [if_neg h]
      refine (if_pos (show (!decide ((atN t n).kind = 20)) = true by rw [decide_eq_false h]; rfl)).trans ?_
      rw [List.append_nil]
theorem list_v (t : Tre) (ht : t.nodes.length ≤ 8192) (n : Int) : Tryd.m9 t n = some ((listN t t.nodes.length n, ()), ()) := by
  rw [Tryd.m9_eq, show (0 : Int) = I 0 from rfl, list_loop t ht t.nodes.length 0 n [] (by omega) (Nat.zero_le _)]
  rfl
section
variable {t : Tre} {s : Str}
theorem types_get (h : GT t.types) (i : Nat) (hi : i < 4) : t.types.getD i d6 = ⟨(i : Nat), 0, 0, []⟩ := by
  obtain ⟨⟨r, hr⟩, _⟩ := h
  rw [hr]
  rcases i with _ | _ | _ | _ | i
  · rfl
  · rfl
  · rfl
  · rfl
  · omega
theorem n19 (hT : GT t.types) (hl : t.types.length ≤ 256) (hN : t.nodes.length ≤ 8192) (htop : t.top < (t.nodes.length : Nat)) : ∀ (m i : Nat), i + m = t.types.length → Tryd.m4_19 t.types (I t.types.length) (I i) t = some ((true, ()), ())
  | 0, i, hi => by
    rw [Tryd.m4_19_eq, if_neg (by simp only [I, decide_eq_true_eq]; omega), if_pos (decide_eq_true htop)]
    refine (ob (list_v t hN t.top)).trans ?_
    refine (if_pos (decide_eq_true (show ((listN t t.nodes.length t.top).length : Int) ≤ (t.nodes.length : Nat) from Int.ofNat_le.2 (listN_len t _ _)))).trans ?_
    exact (ob awake_v).trans rfl
  | m + 1, i, hi => by
    have ih := n19 hT hl hN htop m (i + 1) (by omega)
    have i5 : inR (I i + 1) = true := inR_of (by simp only [I]; omega) (by simp only [I]; omega)
    have i6 : I i + 1 = I (i + 1) := by simp only [I]; omega
    rw [Tryd.m4_19_eq, if_pos (decide_eq_true (by simp only [I]; omega)), if_pos (decide_eq_true (by simp only [I]; omega))]
    by_cases h3 : 3 < i
    · have he := hT.2 i h3 (by omega)
      rw [if_pos (decide_eq_true (by simp only [I]; omega)), if_neg (by rw [decide_eq_true_eq]; show ¬ I i ≤ (t.types.getD i d6).elem; simp only [I]; omega)]
      rw [if_neg (by simp only [I, decide_eq_true_eq]; omega), if_pos i5, i6]
      exact ih
    · rw [if_neg (by simp only [I, decide_eq_true_eq]; omega), if_pos (decide_eq_true (by simp only [I]; omega))]
      have hg := types_get hT i (by omega)
      rw [show (I i).toNat = i from rfl, hg]
      refine (if_neg ?_).trans ?_
      · refine fun hh => Bool.false_ne_true (Eq.trans ?_ hh)
        rcases i with _ | _ | _ | _ | i
        · kernel_rfl
        · kernel_rfl
        · kernel_rfl
        · kernel_rfl
        · omega
      · rw [if_pos i5, i6]
        exact ih
theorem n10s {v : Ar4} {i k : Nat} {N : List Nde} {n : Int} {x : Nde} (hk : k < 4) (h1 : -1 ≤ [v.x0, v.x1, v.x2, v.x3].getD k 0) (h2 : [v.x0, v.x1, v.x2, v.x3].getD k 0 < (i : Nat)) : Tryd.m4_10 s (I i) N n (I i) v (I k) t x = Tryd.m4_10 s (I i) N n (I i) v (I (k + 1)) t x := by
  have i5 : inR (I k + 1) = true := inR_of (by simp only [I]; omega) (by simp only [I]; omega)
  have i6 : I k + 1 = I (k + 1) := by simp only [I]; omega
  rw [Tryd.m4_10_eq, if_pos (decide_eq_true (by simp only [I]; omega)), if_pos (decide_eq_true (by simp only [I]; omega)), show (I k).toNat = k from rfl]
  rw [if_neg (fun hh => absurd (of_decide_eq_true hh) (by omega)), if_neg (fun hh => absurd (of_decide_eq_true hh) (by simp only [I]; omega)), if_pos i5, i6]
theorem n10 (hN : t.nodes.length ≤ 8192) {x : Nde} {i : Nat} (hi : i < t.nodes.length) (g : GN t.types.length i (s.length : Nat) x)
    (next : Tryd.m4_7 s t.nodes (I t.nodes.length) (I (i + 1)) t = some ((true, ()), ())) : Tryd.m4_10 s (I i) t.nodes (I t.nodes.length) (I i) ⟨x.a, x.b, x.c, x.d⟩ 0 t x = some ((true, ()), ()) := by
  obtain ⟨⟨a1, a2⟩, ⟨b1, b2⟩, ⟨c1, c2⟩, ⟨d1, d2⟩, ⟨t1, t2⟩, ⟨p1, p2⟩, k1, k2⟩ := g
  have i5 : inR (I i + 1) = true := inR_of (by simp only [I]; omega) (by simp only [I]; omega)
  have i6 : I i + 1 = I (i + 1) := by simp only [I]; omega
  show Tryd.m4_10 s (I i) t.nodes (I t.nodes.length) (I i) ⟨x.a, x.b, x.c, x.d⟩ (I 0) t x = some ((true, ()), ())
  rw [n10s (v := ⟨x.a, x.b, x.c, x.d⟩) (k := 0) (by decide) a1 a2, n10s (v := ⟨x.a, x.b, x.c, x.d⟩) (k := 1) (by decide) b1 b2, n10s (v := ⟨x.a, x.b, x.c, x.d⟩) (k := 2) (by decide) c1 c2, n10s (v := ⟨x.a, x.b, x.c, x.d⟩) (k := 3) (by decide) d1 d2]
  rw [Tryd.m4_10_eq, if_neg (by decide)]
  rw [if_neg (fun hh => absurd (of_decide_eq_true hh) (show ¬ x.type_ < 0 by omega)), if_neg (fun hh => absurd (of_decide_eq_true hh) (show ¬ I t.types.length ≤ x.type_ by simp only [I]; omega))]
  rw [if_neg (fun hh => absurd (of_decide_eq_true hh) (show ¬ x.at_ < 0 by omega)), if_neg (fun hh => absurd (of_decide_eq_true hh) (show ¬ I s.length < x.at_ by simp only [I]; omega))]
  rw [if_neg (fun hh => absurd (of_decide_eq_true hh) (show ¬ x.kind < 1 by omega)), if_neg (fun hh => absurd (of_decide_eq_true hh) (show ¬ 53 < x.kind by omega))]
  rw [if_pos i5, i6]
  exact next
theorem n7 (hT : GT t.types) (hl : t.types.length ≤ 256) (hN : t.nodes.length ≤ 8192) (htop : t.top < (t.nodes.length : Nat)) (hn : ∀ n, n < t.nodes.length → GN t.types.length n (s.length : Nat) (t.nodes.getD n d5)) : ∀ (m i : Nat), i + m = t.nodes.length → Tryd.m4_7 s t.nodes (I t.nodes.length) (I i) t = some ((true, ()), ())
  | 0, i, hi => by
    rw [Tryd.m4_7_eq, if_neg (by simp only [I, decide_eq_true_eq]; omega)]
    exact n19 hT hl hN htop t.types.length 0 (by omega)
  | m + 1, i, hi => by
    have ih := n7 hT hl hN htop hn m (i + 1) (by omega)
    rw [Tryd.m4_7_eq, if_pos (decide_eq_true (by simp only [I]; omega)), if_pos (decide_eq_true (by simp only [I]; omega))]
    exact n10 hN (by omega) (hn i (by omega)) ih
end
theorem nodes_law (s : Str) : Tryd.m4 s = some ((true, ()), ()) := by
  rw [Tryd.m4_eq]
  by_cases h : (3000 : Int) < I s.length
  · rw [if_pos (decide_eq_true h)]
    exact (ob awake_v).trans rfl
  · rw [if_neg (fun hh => h (of_decide_eq_true hh))]
    refine (ob (r_read s)).trans ?_
    by_cases he : (read s).2.2 = 0
    · refine (if_neg (show ¬ (!decide ((read s).2.2 = 0)) = true by rw [decide_eq_true he]; decide)).trans ?_
      have key : GT (read s).1.types ∧ (read s).1.types.length ≤ 256 ∧ (read s).1.nodes.length ≤ 8192 ∧ (read s).1.top < ((read s).1.nodes.length : Nat) ∧ ∀ n, n < (read s).1.nodes.length → GN (read s).1.types.length n (s.length : Nat) ((read s).1.nodes.getD n d5) := by
        unfold read at he ⊢
        cases hs : Law.scanA s with
        | err a e =>
          rw [hs] at he
          exact absurd he (scan_ne hs)
        | ok l =>
          rw [hs] at he
          have g := parse_good (scan_src hs).tokE he
          exact ⟨g.2.1, (parse_len l).2, (parse_len l).1, g.2.2, g.1⟩
      exact n7 key.1 key.2.1 key.2.2.1 key.2.2.2.1 key.2.2.2.2 (read s).1.nodes.length 0 (by omega)
    · refine (if_pos (show (!decide ((read s).2.2 = 0)) = true by rw [decide_eq_false he]; rfl)).trans ?_
      exact (ob awake_v).trans rfl
end Go.Proofs.TR
