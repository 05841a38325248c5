/-
  Layer 17, plain: sums of terms, and what is told of them, as they are reckoned.
-/
import Derived.Test.YtpjjpcgnogpdmaaDoorTmC
namespace Go.Proofs.Law.Sy
open Go Go.En Go.Proofs Go.Proofs.Law

theorem mul_inR {a b : Int} (ha : in32 a = true) (hb : in32 b = true) : inR (a * b) = true := by
  have h1 := in32_ok.1 ha
  have h2 := in32_ok.1 hb
  rw [inR_iff]
  have e1 : (a * b).natAbs ≤ 2147483648 * 2147483648 := by rw [Int.natAbs_mul]; exact Nat.mul_le_mul (by omega) (by omega)
  omega
theorem take_ok (x : En.Dop.Nod) (b : Int) (hx : x.args.length ≤ 20) (hf : x.fact.length = x.args.length) : ∀ (n k : Nat) (m : List (Int × Int)) (l : List Int) (p : List (Int × Int) × List Int), k + n = x.args.length → take b (x.args.drop k) (x.fact.drop k) m l = some p →
    Tryd.m34_2 b x.args (I x.args.length) (I k) m l x = some ((), ((p.1, ()), ((p.2, ()), ())))
  | 0, k, m, l, p, e, h => by
    have e : k = x.args.length := by omega
    subst e
    rw [List.drop_eq_nil_of_le (Nat.le_refl _)] at h
    simp only [take, Option.some.injEq] at h
    subst h
    rw [Tryd.m34_2_eq]
    simp only [I_nlt, decide_false, Bool.false_eq_true, if_false]
  | n + 1, k, m, l, p, e, h => by
    have hk : k < x.args.length := by omega
    have hk' : k < x.fact.length := by omega
    rw [drop_get (0 : Int) hk, drop_get (0 : Int) hk'] at h
    obtain ⟨h1, h2⟩ := guardB_ok h
    simp only [Bool.and_eq_true, Nat.ble_eq] at h1
    obtain ⟨⟨⟨h3, h4⟩, h5⟩, h6⟩ := h1
    have ih := take_ok x b hx hf n (k + 1) _ _ _ (by omega) h2
    have k1 := mul_inR h3 h4
    have k2 := wr_range (x.fact.getD k 0 * b)
    have k3 := in32_ok.1 h6
    have k4 : inR ((mlookI m (x.args.getD k 0)).getD 0 + wr (x.fact.getD k 0 * b)) = true := by rw [inR_iff]; omega
    have k5 : room 8 (l.length + [x.args.getD k 0].length) = true := room_s _ _ (by simp only [List.length_cons, List.length_nil]; omega)
    rw [Tryd.m34_2_eq]
    simp only [I_lt hk, I_lt hk', I_nn, I_nat, I_s, I_in hk (show x.args.length < 1000000 by omega), and_self, decide_true, if_true, k1, m21_v, Option.bind, k4, andC, k5]
    generalize mlookI m (x.args.getD k 0) = lk at ih ⊢
    cases lk with
    | none => simpa only [Option.isSome, Bool.not_false, if_true] using ih
    | some y => simpa only [Option.isSome, Bool.not_true, Bool.false_eq_true, if_false] using ih
theorem m34_v (x : En.Dop.Nod) (b : Int) (hx : x.args.length ≤ 20) (hf : x.fact.length = x.args.length) {m : List (Int × Int)} {l : List Int} {p : List (Int × Int) × List Int} (h : take b x.args x.fact m l = some p) :
    Tryd.m34 x b m l = some ((), ((p.1, ()), ((p.2, ()), ()))) := by
  have := take_ok x b hx hf x.args.length 0 m l p (by omega) h
  rw [Tryd.m34_eq]; exact this
theorem keep_ok (ids : List Int) (hi : ids.length ≤ 100) (m : List (Int × Int)) (a0 a1 a2 : Int) (a3 : List UInt8) (a4 a5 : List Int) (c0 c1 c2 : Int) (c3 : List UInt8) : ∀ (n k : Nat) (p : List Int × List Int), k + n = ids.length → p.1.length ≤ k → p.2.length ≤ k →
    Tryd.m20_9 ids (I ids.length) (I k) a0 a1 a2 a3 a4 a5 c0 c1 c2 c3 p.1 p.2 m = some ((Dop.Nod.mk c0 c1 c2 c3 (keep m (ids.drop k) p).1 (keep m (ids.drop k) p).2, ()), ())
  | 0, k, p, e, _, _ => by
    have e : k = ids.length := by omega
    subst e
    rw [Tryd.m20_9_eq, List.drop_eq_nil_of_le (Nat.le_refl _)]
    simp only [I_nlt, decide_false, Bool.false_eq_true, if_false, keep]
  | n + 1, k, p, e, h1, h2 => by
    have hk : k < ids.length := by omega
    have r1 : ∀ z : Int, room 8 (p.1.length + [z].length) = true := fun z => room_s _ _ (by simp only [List.length_cons, List.length_nil]; omega)
    have r2 : ∀ z : Int, room 8 (p.2.length + [z].length) = true := fun z => room_s _ _ (by simp only [List.length_cons, List.length_nil]; omega)
    rw [Tryd.m20_9_eq, drop_get (0 : Int) hk]
    simp only [I_lt hk, I_nn, I_nat, I_s, I_in hk (show ids.length < 1000000 by omega), and_self, decide_true, if_true, hk, andC, r1, r2, keep]
    by_cases hz : (mlookI m (ids.getD k 0)).getD 0 = 0
    · simp only [hz, decide_true, Bool.not_true, Bool.false_eq_true, if_false]
      exact keep_ok ids hi m a0 a1 a2 a3 a4 a5 c0 c1 c2 c3 n (k + 1) p (by omega) (by omega) (by omega)
    · have hz' := eqI_no.2 hz
      simp only [hz', hz, decide_false, Bool.not_false, if_true]
      exact keep_ok ids hi m a0 a1 a2 a3 a4 a5 c0 c1 c2 c3 n (k + 1) (p.1 ++ [ids.getD k 0], p.2 ++ [(mlookI m (ids.getD k 0)).getD 0]) (by omega) (by simp only [List.length_append, List.length_cons, List.length_nil]; omega) (by simp only [List.length_append, List.length_cons, List.length_nil]; omega)
theorem lin0_ev (W : Int) (z : Z) : evN W (lin0 z) = Dop.Nod.mk (4 : Int) (0 : Int) (ev W z) [] [] [] := rfl
section
variable {W : Int} (hW : Wk W)
include hW
theorem add_ok {a b z : SN} {by_ : Int} (h : add a b by_ = some z) : Tryd.m20 (evN W a) (evN W b) by_ = some ((evN W z, ()), ()) := by
  obtain ⟨h1, h2⟩ := guardB_ok h
  simp only [Option.bind_eq_some_iff, Bool.and_eq_true, smallN, Nat.ble_eq, Nat.beq_eq] at h1 h2
  obtain ⟨⟨⟨s1, s2⟩, s3, s4⟩, s5⟩ := h1
  obtain ⟨n1, e1, n, e2, p, e3, q, e4, e5⟩ := h2
  obtain ⟨m1, m2, m3⟩ := mulZ_ok hW e1
  obtain ⟨m4, m5, m6⟩ := addZ_ok hW e2
  obtain ⟨h6, h7⟩ := guardB_ok e5
  simp only [Bool.and_eq_true, Nat.ble_eq] at h6
  have k1 := m34_v (evN W a) 1 s1 s2 e3
  have k2 := m34_v (evN W b) by_ s3 s4 e4
  have k3 : okSort q.2 = true := by unfold okSort; rw [Bool.and_eq_true]; exact ⟨h6.1, decide_eq_true (by omega)⟩
  have hil : (isort q.2).length = q.2.length := (isort_perm _).length_eq
  have hid : ∀ l : List Int, List.map (fun a => a) l = l := fun l => List.map_id' l
  have k4 := keep_ok (isort q.2) (by omega) q.1 0 0 0 [] [] [] 4 0 (ev W n) [] (isort q.2).length 0 ([], []) (by omega) (Nat.zero_le _) (Nat.zero_le _)
  have e0 : I 0 = 0 := rfl
  rw [e0, List.drop_zero] at k4
  have m1' : inR ((evN W b).n * by_) = true := m1
  have m2' : wr ((evN W b).n * by_) = ev W n1 := m2
  have m4' : inR ((evN W a).n + ev W n1) = true := m4
  have m5' : wr ((evN W a).n + ev W n1) = ev W n := m5
  rw [Tryd.m20_eq]
  simp only [m1', if_true, m21_v, m2', Option.bind, m4', m5', k1, k2, k3, hid]
  rw [k4]
  generalize keep q.1 (isort q.2) ([], []) = r at h7 ⊢
  obtain ⟨r1, r2⟩ := r
  cases h7
  rfl
theorem made_ok {x : SN} {L L' : List SN} {i : Nat} (h : made x L = some (i, L')) : Tryd.m19 (evN W x) (SL W L) (byF 0 (SL W L)) = some (res W (I i) L') := by
  have hp : put x L = some (i, L') → (Tryd.m12 (evN W x) (SL W L) (byF 0 (SL W L))).bind (fun y6 => some ((y6.fst.fst, ()), ((y6.snd.fst.fst, (y6.snd.fst.snd.fst, ())), ()))) = some (res W (I i) L') := fun h => by rw [put_ok hW h]; rfl
  have hz := zeroZ_ok hW x.n
  obtain ⟨kind, op, n, name, args, fact⟩ := x
  simp only at hz
  unfold made at h
  simp only at h
  rw [Tryd.m19_eq]
  split at h
  · have := num_ok' hW h
    have e : I (evN W ⟨kind, op, n, name, [], fact⟩).args.length = 0 := rfl
    simp only [e, decide_true, if_true]
    show (Tryd.m8 (ev W n) (SL W L) (byF 0 (SL W L))).bind _ = _
    rw [this]; rfl
  · rename_i a f fs
    have e : I (evN W ⟨kind, op, n, name, [a], f :: fs⟩).args.length = 1 := rfl
    have e2 : (evN W ⟨kind, op, n, name, [a], f :: fs⟩).n = ev W n := rfl
    have e3 : (0 : Int) < I (evN W ⟨kind, op, n, name, [a], f :: fs⟩).fact.length := by show (0 : Int) < ((fs.length + 1 : Nat) : Int); omega
    have e4 : (evN W ⟨kind, op, n, name, [a], f :: fs⟩).fact.getD (Int.toNat 0) 0 = f := by simp [evN]
    have e5 : (evN W ⟨kind, op, n, name, [a], f :: fs⟩).args.getD (Int.toNat 0) 0 = a := by simp [evN]
    simp only [e, e2, e3, e4, e5, show ¬ ((1 : Int) = 0) by omega, decide_false, Bool.false_eq_true, if_false, decide_true, if_true, ← hz, Int.le_refl, true_and, show (0 : Int) < 1 by omega]
    split at h
    · rename_i hz1
      simp only [hz1, if_true]
      split at h
      · rename_i h1
        obtain ⟨h2, h3⟩ := guardB_ok h
        have h2 := of_decide_eq_true h2
        simp only [Option.some.injEq, Prod.mk.injEq] at h3
        obtain ⟨rfl, rfl⟩ := h3
        simp only [eqI_ok.1 h1, decide_true, if_true]
        show some ((a, ()), _) = some ((((a.toNat : Nat) : Int), ()), _)
        rw [Int.toNat_of_nonneg h2]
      · rename_i h1
        simp only [eqI_no.1 h1, decide_false, Bool.false_eq_true, if_false]
        exact hp h
    · rename_i hz1
      simp only [hz1, Bool.false_eq_true, if_false]
      exact hp h
  · cases h
  · rename_i a b r
    have e : I (evN W ⟨kind, op, n, name, a :: b :: r, fact⟩).args.length = ((r.length + 1 + 1 : Nat) : Int) := rfl
    simp only [e, show ¬ (((r.length + 1 + 1 : Nat) : Int) = 0) by omega, show ¬ (((r.length + 1 + 1 : Nat) : Int) = 1) by omega, decide_false, Bool.false_eq_true, if_false]
    exact hp h
theorem less1_ok {t : Nat} {L L' : List SN} {i : Nat} (h : less1 t L = some (i, L')) : Tryd.m23 (I t) (SL W L) (byF 0 (SL W L)) = some (res W (I i) L') := by
  simp only [less1, Option.bind_eq_some_iff] at h
  obtain ⟨x, h1, y, h2, h3⟩ := h
  have k1 := linear_ok (W := W) h1 (byF 0 (SL W L))
  have k2 := add_ok hW h2
  rw [lin0_ev, show ev W (.c 1) = 1 from rfl] at k2
  have k3 := made_ok hW h3
  have hn : ¬ I t < 0 := by have := I_nn t; omega
  rw [Tryd.m23_eq]
  simp only [hn, decide_false, Bool.false_eq_true, if_false, k1, Option.bind, k2, k3]
omit hW in
theorem m44_v (x y : Int) : Tryd.m44 x y = some ((if x < y then -1 else if y < x then 1 else 0, ()), ()) := by
  rw [Tryd.m44_eq, Tryd.m59_eq, Tryd.m59_eq]
  simp only [Option.bind, decide_true, Bool.not_true, Bool.false_eq_true, if_false, decide_eq_true_eq]
  split
  · rfl
  · split <;> rfl
omit hW in
theorem cmp_loop (f1 f2 : List Int) (n1 n2 : Int) (he : f1.length = f2.length) (hl : f2.length ≤ 50) {g : Bool} : ∀ (n k : Nat), k + n = f1.length → cmpF (f1.drop k) (f2.drop k) = some g →
    ∃ c : Int, Tryd.m37_2 (f1 ++ [n1]) (f2 ++ [n2]) (f1 ++ [n1]) (I (f1 ++ [n1]).length) (I k) = some ((c, ()), ()) ∧ decide (0 < c) = g
  | 0, k, e, h => by
    have e : k = f1.length := by omega
    rw [List.drop_eq_nil_of_le (by omega)] at h
    cases h
  | n + 1, k, e, h => by
    have hk : k < f1.length := by omega
    have hk2 : k < f2.length := by omega
    have hL1 : (f1 ++ [n1]).length = f1.length + 1 := by simp
    have hL2 : (f2 ++ [n2]).length = f2.length + 1 := by simp
    have hk' : k < (f1 ++ [n1]).length := by omega
    have hk2' : k < (f2 ++ [n2]).length := by omega
    have hn : ¬ I (f2 ++ [n2]).length ≤ I k := by have := I_lt hk2'; omega
    have g1 : (f1 ++ [n1]).getD k 0 = f1.getD k 0 := by simp [List.getD, List.getElem?_append_left hk]
    have g2 : (f2 ++ [n2]).getD k 0 = f2.getD k 0 := by simp [List.getD, List.getElem?_append_left hk2]
    rw [drop_get (0 : Int) hk, drop_get (0 : Int) hk2] at h
    simp only [cmpF] at h
    rw [Tryd.m37_2_eq]
    simp only [I_lt hk', I_lt hk2', I_nn, I_nat, I_s, I_in hk' (show (f1 ++ [n1]).length < 1000000 by omega), hn, and_self, decide_true, decide_false, if_true, Bool.false_eq_true, if_false, g1, g2, m44_v, Option.bind]
    split at h
    · rename_i hq
      have hq := eqI_ok.1 hq
      obtain ⟨c, h1, h2⟩ := cmp_loop f1 f2 n1 n2 he hl n (k + 1) (by omega) h
      refine ⟨c, ?_, h2⟩
      rw [hq, if_neg (Int.lt_irrefl _), if_neg (Int.lt_irrefl _)]
      simp only [decide_true, Bool.not_true, Bool.false_eq_true, if_false]
      exact h1
    · rename_i hq
      have hq := eqI_no.1 hq
      cases h
      by_cases hlt : f1.getD k 0 < f2.getD k 0
      · refine ⟨-1, ?_, ?_⟩
        · simp only [hlt, if_true, show ¬ ((-1 : Int) = 0) by omega, decide_false, Bool.not_false]
        · rw [Bool.eq_iff_iff, decide_eq_true_iff, decide_eq_true_iff]; omega
      · have hgt : f2.getD k 0 < f1.getD k 0 := by omega
        refine ⟨1, ?_, ?_⟩
        · simp only [hlt, hgt, if_true, if_false, show ¬ ((1 : Int) = 0) by omega, decide_false, Bool.not_false]
        · rw [Bool.eq_iff_iff, decide_eq_true_iff, decide_eq_true_iff]; omega
theorem eqn2_ok {x : SN} {L L' : List SN} {i : Nat} (h : eqn2 x L = some (i, L')) : Tryd.m22_10 (SL W L) (byF 0 (SL W L)) (evN W x) = some (res W (I i) L') := by
  simp only [eqn2, Option.bind_eq_some_iff] at h
  obtain ⟨y, h1, h2⟩ := h
  obtain ⟨h3, h4⟩ := guardB_ok h2
  simp only [Bool.and_eq_true, Nat.beq_eq, Nat.ble_eq, Option.bind_eq_some_iff] at h3 h4
  obtain ⟨g, h5, p, h6, q, h7, h8⟩ := h4
  have k2 := add_ok hW h1
  rw [lin0_ev, show ev W (.c 0) = 0 from rfl] at k2
  have f1 : (evN W y).fact = y.fact := rfl
  have f2 : (evN W x).fact = x.fact := rfl
  obtain ⟨c, c1, c2⟩ := cmp_loop y.fact x.fact (evN W y).n (evN W x).n h3.1 h3.2 y.fact.length 0 (by omega) h5
  have e0 : I 0 = 0 := rfl
  rw [e0] at c1
  have r1 : y.fact.length * 8 ≤ 140737488355328 := by omega
  have r2 : x.fact.length * 8 ≤ 140737488355328 := by omega
  have r3 : ∀ z : Int, room 8 (y.fact.length + [z].length) = true := fun z => room_s _ _ (by simp only [List.length_cons, List.length_nil]; omega)
  have r4 : ∀ z : Int, room 8 (x.fact.length + [z].length) = true := fun z => room_s _ _ (by simp only [List.length_cons, List.length_nil]; omega)
  have fin : ∀ w : SN, made w L = some p → (Tryd.m19 (evN W w) (SL W L) (byF 0 (SL W L))).bind (fun y5 => (Tryd.m8 ((0 : Int)) (y5.snd.fst.fst) (y5.snd.fst.snd.fst)).bind fun y6 =>
       if (decide (y5.fst.fst < (0 : Int))) = true then
        some (((-1 : Int), ()), ((y6.snd.fst.fst, (y6.snd.fst.snd.fst, ())), ()))
       else
        if (decide (y6.fst.fst < (0 : Int))) = true then
         some (((-1 : Int), ()), ((y6.snd.fst.fst, (y6.snd.fst.snd.fst, ())), ()))
        else
         (Tryd.m12 (Dop.Nod.mk (3 : Int) (14 : Int) (0 : Int) [] (y5.fst.fst :: y6.fst.fst :: []) []) (y6.snd.fst.fst) (y6.snd.fst.snd.fst)).bind fun y9 =>
          some ((y9.fst.fst, ()), ((y9.snd.fst.fst, (y9.snd.fst.snd.fst, ())), ()))) = some (res W (I i) L') := fun w hw => by
    have a1 := made_ok hW (i := p.1) (L' := p.2) hw
    have a2 := num_ok' hW (i := q.1) (L' := q.2) h7
    rw [show ev W (.c 0) = 0 from rfl] at a2
    have a3 := put_ok hW h8
    have a4 : evN W ⟨3, 14, .c 0, [], [(p.1 : Int), (q.1 : Int)], []⟩ = Dop.Nod.mk (3 : Int) (14 : Int) (0 : Int) [] (I p.1 :: I q.1 :: []) [] := rfl
    rw [a4] at a3
    have n1 : ¬ I p.1 < 0 := by have := I_nn p.1; omega
    have n2 : ¬ I q.1 < 0 := by have := I_nn q.1; omega
    rw [a1]
    simp only [Option.bind, a2, n1, n2, decide_false, Bool.false_eq_true, if_false, a3]
  rw [Tryd.m22_10_eq, k2]
  simp only [Option.bind_some, f1, f2, r1, r2, decide_true, if_true, andC, r3, r4]
  rw [Tryd.m37_eq, c1]
  simp only [Option.bind_some, c2]
  cases g with
  | true => rw [if_pos rfl]; exact fin y h6
  | false => rw [if_neg Bool.false_ne_true]; exact fin x h6
end
end Go.Proofs.Law.Sy
