/-
  The program's Scan is the plain one.
-/
import Derived.Test.YtcifaokahhbflaaDoorLxE
namespace Go.Proofs.Law
open Go Go.En Go.Proofs

/-- What a scan comes to. -/
def scanR (out : List En.Dop.Tok) (m : Sc.Scn) : Spec.D En.Dop.D2 ⟨[.own 4 32, .fd (.int .i64), .fd (.int .i64)], []⟩ := match m with
  | .err a e => (([], ((a : Int), (e, ()))), ())
  | .ok l => ((out ++ l, ((0 : Int), ((0 : Int), ()))), ())
set_option linter.unusedSimpArgs false in
theorem scanR_cons (out : List En.Dop.Tok) (t : En.Dop.Tok) : ∀ m : Sc.Scn, scanR out (m.cons t) = scanR (out ++ [t]) m
  | .err _ _ => rfl
  | .ok l => by simp [scanR, Sc.Scn.cons]
set_option linter.unusedSimpArgs false in
theorem room_v (n : Nat) (h : n ≤ 1000000) : room 40 n = true := by
  unfold room
  exact decide_eq_true (by omega)
set_option linter.unusedSimpArgs false in
theorem tokL_err {c : UInt8} {r : List UInt8} {e : Int} (h : Sc.tokL (c :: r) = .err e) : e = 2 ∨ e = 3 := by
  simp only [Sc.tokL] at h
  repeat' split at h
  all_goals first
    | (injection h with h; omega)
    | cases h
set_option linter.unusedSimpArgs false in
theorem scan_loop : ∀ u cnt, ∀ (s : List UInt8) (out : List En.Dop.Tok) (k : Nat), s.length ≤ 100000 → s.drop k = u → k ≤ s.length → out.length = cnt → cnt ≤ 8192 → Tryd.m11_5 s out (I k) = some (scanR out (Sc.scanL k cnt u)) := by
  have pos : ∀ (s u x : List UInt8) (k : Nat), s.drop k = u → k ≤ s.length → x.length ≤ u.length → k + (u.length - x.length) = s.length - x.length := fun s u x k h hk hx => by
    have hl : u.length = s.length - k := by rw [← h, List.length_drop]
    omega
  have hin : ∀ n : Nat, n ≤ 2000000 → inR (I n) = true := fun n hn => by rw [inR_iff]; simp only [I_eq]; omega
  have add : ∀ a b : Nat, I a + I b = I (a + b) := fun a b => by simp only [I_eq]; omega
  have le : ∀ a b : Nat, a ≤ b → I a ≤ I b := fun a b h => by simp only [I_eq]; omega
  have one : ∀ t : En.Dop.Tok, (t :: @List.nil En.Dop.Tok).length = 1 := fun _ => rfl
  have sp : ∀ (s u : List UInt8) (k : Nat), s.length ≤ 100000 → s.drop k = u → Tryd.m21 (List.drop (I k).toNat (List.take (I s.length).toNat s)) = some ((I (u.length - (Sc.skipL u).1.length), ((Sc.skipL u).2, ())), ()) := fun s u k hs h => by
    rw [take_all, I_nat, h]
    exact spaces_v u (by rw [← h, List.length_drop]; omega)
  have dr : ∀ (s u p x : List UInt8) (k : Nat), s.drop k = u → u = p ++ x → s.drop (k + (u.length - x.length)) = x := fun s u p x k h e => by
    rw [← List.drop_drop, h, e]
    simp
  refine Sc.scan_ind ?_ ?_ ?_ ?_ ?_
  · intro cnt u x hx s out k hs h hk ho hc
    have hle := Sc.skipL_le u
    rw [hx] at hle
    have hl : u.length = s.length - k := by rw [← h, List.length_drop]
    rw [Tryd.m11_5_eq, Sc.scan_bad _ _ hx, sp s u k hs h, hx]
    simp only [I_nn, le _ _ hk, Int.le_refl, and_self, decide_true, if_true, Option.bind, add, hin (k + (u.length - x.length)) (by omega), Bool.not_false, scanR]
  · intro cnt u hx s out k hs h hk ho hc
    have hl : u.length = s.length - k := by rw [← h, List.length_drop]
    have e : k + u.length = s.length := by omega
    rw [Tryd.m11_5_eq, Sc.scan_end _ _ hx, sp s u k hs h, hx]
    simp only [I_nn, le _ _ hk, Int.le_refl, and_self, decide_true, if_true, Option.bind, add, List.length_nil, Nat.sub_zero, e, hin s.length (by omega), Bool.not_true, Bool.false_eq_true, if_false, one, andC, room_v (out.length + 1) (by omega), scanR, Sc.fin]
  · intro cnt u c r e hx ht s out k hs h hk ho hc
    have hle := Sc.skipL_le u
    rw [hx] at hle
    have hl : u.length = s.length - k := by rw [← h, List.length_drop]
    obtain ⟨p, hp⟩ := Sc.skip_suf u
    rw [hx] at hp
    simp only at hp hle
    have hd := dr s u p _ k h hp
    have hlt := drop_lt hd
    have hne : ¬ I (k + (u.length - (c :: r).length)) = I s.length := by simp only [I_eq]; omega
    have ho1 := one_v c r (by simp only [List.length_cons] at hle ⊢; omega)
    rw [ht] at ho1
    have hee : ¬ e = 0 := by rcases tokL_err ht with rfl | rfl <;> decide
    have hcr : List.drop (I (k + (u.length - (c :: r).length))).toNat (List.take (I s.length).toNat s) = c :: r := by rw [take_all, I_nat, hd]
    rw [Tryd.m11_5_eq, Sc.scan_err _ _ hx ht, sp s u k hs h, hx]
    simp only [I_nn, le _ _ hk, Int.le_refl, and_self, decide_true, if_true, Option.bind, add, hin (k + (u.length - (c :: r).length)) (by omega), Bool.not_true, Bool.false_eq_true, if_false, hne, decide_false, le _ _ (Nat.le_of_lt hlt), hcr, ho1, oneR, hee, Bool.not_false, scanR]
  · intro cnt u c r kk t n hx ht hc2 s out k hs h hk ho hc
    have hle := Sc.skipL_le u
    rw [hx] at hle
    have hl : u.length = s.length - k := by rw [← h, List.length_drop]
    obtain ⟨p, hp⟩ := Sc.skip_suf u
    rw [hx] at hp
    simp only at hp hle
    have hd := dr s u p _ k h hp
    have hlt := drop_lt hd
    have hne : ¬ I (k + (u.length - (c :: r).length)) = I s.length := by simp only [I_eq]; omega
    have ho1 := one_v c r (by simp only [List.length_cons] at hle ⊢; omega)
    rw [ht] at ho1
    have hcr : List.drop (I (k + (u.length - (c :: r).length))).toNat (List.take (I s.length).toNat s) = c :: r := by rw [take_all, I_nat, hd]
    have h8 : I out.length = 8192 := by simp only [I_eq]; omega
    rw [Tryd.m11_5_eq, Sc.scan_full _ hx ht hc2, sp s u k hs h, hx]
    simp only [I_nn, le _ _ hk, Int.le_refl, and_self, decide_true, if_true, Option.bind, add, hin (k + (u.length - (c :: r).length)) (by omega), Bool.not_true, Bool.false_eq_true, if_false, hne, decide_false, le _ _ (Nat.le_of_lt hlt), hcr, ho1, oneR, h8, scanR]
  · intro cnt u c t x kk n hx ht hc2 ih s out k hs h hk ho hc
    have hle := Sc.skipL_le u
    rw [hx] at hle
    have hl : u.length = s.length - k := by rw [← h, List.length_drop]
    obtain ⟨p, hp⟩ := Sc.skip_suf u
    rw [hx] at hp
    simp only at hp hle
    have hd := dr s u p _ k h hp
    have hlt := drop_lt hd
    have hne : ¬ I (k + (u.length - (c :: (t ++ x)).length)) = I s.length := by simp only [I_eq]; omega
    have ho1 := one_v c (t ++ x) (by omega)
    rw [ht] at ho1
    have hcr : List.drop (I (k + (u.length - (c :: (t ++ x)).length))).toNat (List.take (I s.length).toNat s) = c :: (t ++ x) := by rw [take_all, I_nat, hd]
    have h8 : ¬ I out.length = 8192 := by simp only [I_eq]; omega
    have hx2 : s.drop (k + (u.length - (c :: (t ++ x)).length) + (c :: t).length) = x := by
      rw [← List.drop_drop, hd]
      show (c :: t ++ x).drop (c :: t).length = x
      exact List.drop_left
    have hx3 : (c :: (t ++ x)).length = (c :: t).length + x.length := by simp only [List.length_cons, List.length_append]; omega
    rw [Tryd.m11_5_eq, Sc.scan_tok _ hx ht hc2, Sc.drop_tok, scanR_cons, sp s u k hs h, hx]
    simp only [I_nn, le _ _ hk, Int.le_refl, and_self, decide_true, if_true, Option.bind, add, hin (k + (u.length - (c :: (t ++ x)).length)) (by omega), Bool.not_true, Bool.false_eq_true, if_false, hne, decide_false, le _ _ (Nat.le_of_lt hlt), hcr, ho1, oneR, h8, one, andC, room_v (out.length + 1) (by omega), hin (k + (u.length - (c :: (t ++ x)).length) + (c :: t).length) (by omega)]
    exact ih (cnt + 1) s (out ++ [_]) _ hs hx2 (by omega) (by rw [List.length_append]; show out.length + 1 = _; omega) (by omega)
/-- All tokens of a text. -/
def scanA (s : List UInt8) : Sc.Scn := if 32768 < s.length then .err 0 4 else Sc.scanL 0 0 s
set_option linter.unusedSimpArgs false in
theorem scan_v (s : List UInt8) : Tryd.m11 s = some (scanR [] (scanA s)) := by
  rw [Tryd.m11_eq]
  unfold scanA
  by_cases h : 32768 < s.length
  · have h' : (32768 : Int) < I s.length := by simp only [I_eq]; omega
    simp only [h, h', decide_true, if_true, scanR]
    rfl
  · have h' : ¬ (32768 : Int) < I s.length := by simp only [I_eq]; omega
    simp only [h, h', decide_false, Bool.false_eq_true, if_false]
    exact scan_loop s 0 s [] 0 (by omega) rfl (Nat.zero_le _) rfl (by omega)
end Go.Proofs.Law
