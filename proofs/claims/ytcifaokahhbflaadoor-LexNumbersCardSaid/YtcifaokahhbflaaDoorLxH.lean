/-
  The document's Scan is the plain one.
-/
import Derived.Test.YtcifaokahhbflaaDoorLxG
namespace Go.Proofs.Law
open Go Go.En Go.Proofs

/-- Rows of words of which none is longer than one before it. -/
def Falls : List (List UInt8) → Prop
  | [] => True
  | x :: r => (∀ y ∈ r, y.length ≤ x.length) ∧ Falls r
instance : ∀ l, Decidable (Falls l)
  | [] => inferInstanceAs (Decidable True)
  | x :: r => @instDecidableAnd _ _ (inferInstanceAs (Decidable (∀ y ∈ r, y.length ≤ x.length))) (instDecidableFalls r)
set_option linter.unusedSimpArgs false in
theorem signs_falls : Falls Sc.signs := by decide +kernel
set_option linter.unusedSimpArgs false in
theorem signs_short : ∀ x ∈ Sc.signs, x ≠ [] ∧ x.length ≤ 3 := by decide
set_option linter.unusedSimpArgs false in
theorem getD_drop {l r : List (List UInt8)} {k : Nat} {x : List UInt8} (h : l.drop k = x :: r) : k < l.length ∧ l.getD k [] = x ∧ l.drop (k + 1) = r := by
  have hk : k < l.length := by
    apply Classical.byContradiction
    intro hn
    rw [List.drop_eq_nil_of_le (by omega)] at h
    cases h
  refine ⟨hk, ?_, by rw [← List.drop_drop, h]; rfl⟩
  rw [List.drop_eq_getElem_cons hk] at h
  simp only [List.cons.injEq] at h
  simp [List.getD, hk, h.1]
set_option linter.unusedSimpArgs false in
/-- Once a sign is found no later one is longer. -/
theorem sign_stay (o : List UInt8) (out : List En.Dop.Tok) (k : Nat) (ho : o.length ≤ 1000000) (hk : k ≤ o.length) (b : En.Dop.Tok) (hb : b.kind ≠ 0) : ∀ (l : List (List UInt8)) (i : Nat), Sc.signs.drop i = l → (∀ y ∈ l, y.length ≤ b.text.length) → (∀ y ∈ l, y.length ≤ 3) → Tryd.m12_36 o out (I k) Sc.signs (I i) b = Tryd.m12_43 o out (I k) b
  | [], i, h, _, _ => by
    have hi : Sc.signs.length ≤ i := List.drop_eq_nil_iff.1 h
    rw [Tryd.m12_36_eq]
    simp only [I_nlt' hi, decide_false, Bool.false_eq_true, if_false, hb]
  | y :: l, i, h, h1, h2 => by
    obtain ⟨hi, hg, hd⟩ := getD_drop h
    have hl : Sc.signs.length = 45 := by decide
    have h3 := h1 y List.mem_cons_self
    have h4 := h2 y List.mem_cons_self
    have ih := sign_stay o out k ho hk b hb l (i + 1) hd (fun z hz => h1 z (List.mem_cons_of_mem _ hz)) (fun z hz => h2 z (List.mem_cons_of_mem _ hz))
    have e37 : Tryd.m12_37 o out (I k) Sc.signs (I i) b = Tryd.m12_43 o out (I k) b := by
      rw [Tryd.m12_37_eq]
      simp only [I_s, inI (n := i + 1) (by omega), if_true]
      exact ih
    rw [Tryd.m12_36_eq]
    simp only [I_lt hi, I_nn, I_nat, hi, hg, and_self, decide_true, if_true, at_v o k y ho hk (by omega)]
    simp only [Option.bind, I_nlt' h3, decide_false, Bool.false_eq_true, if_false, e37, ite_self]
set_option linter.unusedSimpArgs false in
theorem sign_find (o : List UInt8) (out : List En.Dop.Tok) (k : Nat) (ho : o.length ≤ 1000000) (hk : k ≤ o.length) (n a : Int) : ∀ (l : List (List UInt8)) (i : Nat), Sc.signs.drop i = l → Falls l → (∀ y ∈ l, y ≠ [] ∧ y.length ≤ 3) →
    Tryd.m12_36 o out (I k) Sc.signs (I i) ⟨0, [], n, a⟩ = match l.find? fun x => x.isPrefixOf (o.drop k) with
      | none => some (([], (I k, ((2 : Int), ()))), ())
      | some x => Tryd.m12_43 o out (I k) ⟨4, x, n, a⟩
  | [], i, h, _, _ => by
    have hi : Sc.signs.length ≤ i := List.drop_eq_nil_iff.1 h
    rw [Tryd.m12_36_eq]
    simp only [I_nlt' hi, decide_false, Bool.false_eq_true, if_false, decide_true, if_true, List.find?_nil]
  | y :: l, i, h, hf, h2 => by
    obtain ⟨hi, hg, hd⟩ := getD_drop h
    have hl : Sc.signs.length = 45 := by decide
    have h4 := h2 y List.mem_cons_self
    have hy : I ([] : List UInt8).length < I y.length := by
      cases y with
      | nil => exact absurd rfl h4.1
      | cons c r => simp only [I_eq, List.length_nil, List.length_cons]; omega
    have e37 : ∀ b, Tryd.m12_37 o out (I k) Sc.signs (I i) b = Tryd.m12_36 o out (I k) Sc.signs (I (i + 1)) b := fun b => by
      rw [Tryd.m12_37_eq]
      simp only [I_s, inI (n := i + 1) (by omega), if_true]
    rw [Tryd.m12_36_eq, List.find?_cons]
    simp only [I_lt hi, I_nn, I_nat, hi, hg, and_self, decide_true, if_true, at_v o k y ho hk (by omega)]
    simp only [Option.bind, hy, decide_true, if_true, e37]
    cases hp : y.isPrefixOf (o.drop k) with
    | true =>
      simp only [if_true]
      exact sign_stay o out k ho hk ⟨4, y, n, a⟩ (by show (4 : Int) ≠ 0; decide) l (i + 1) hd (fun z hz => hf.1 z hz) (fun z hz => (h2 z (List.mem_cons_of_mem _ hz)).2)
    | false =>
      simp only [Bool.false_eq_true, if_false]
      exact sign_find o out k ho hk n a l (i + 1) hd hf.2 (fun z hz => h2 z (List.mem_cons_of_mem _ hz))
set_option linter.unusedSimpArgs false in
theorem ob {α β : Type} {m : Option α} {x : α} {f : α → Option β} (h : m = some x) : m.bind f = f x := by rw [h]; rfl
/-- What comes of one token. -/
noncomputable def tokR (o : List UInt8) (out : List En.Dop.Tok) (k : Nat) (m : Sc.Res) : Option (Spec.D En.Dop.D2 ⟨[.own 4 32, .fd (.int .i64), .fd (.int .i64)], []⟩) := match m with
  | .err e => some (([], (I k, (e, ()))), ())
  | .tok kk t n => Tryd.m12_43 o out (I k) ⟨kk, t, (n : Int), I k⟩
set_option linter.unusedSimpArgs false in
theorem tok_loop (o : List UInt8) (out : List En.Dop.Tok) (k : Nat) (ho : o.length ≤ 100000) {c : UInt8} {r : List UInt8} (hc : o.drop k = c :: r) (E : Nat) (hE : E = k + ((c :: r).takeWhile Sc.aln).length) :
    ∀ (u : List UInt8) (e : Nat), o.drop e = u → e ≤ o.length → k ≤ e → e + (u.takeWhile Sc.aln).length = E → Tryd.m12_13 o out (I k) (I e) ⟨0, [], 0, I k⟩ = tokR o out k (Sc.tokL (c :: r)) := by
  have hk := drop_lt hc
  have htl : ((c :: r).takeWhile Sc.aln).length ≤ (c :: r).length := (List.takeWhile_prefix _).length_le
  have hl : (c :: r).length = o.length - k := by rw [← hc, List.length_drop]
  have hEo : E ≤ o.length := by omega
  have hkE : k ≤ E := by omega
  have htt : List.drop (I k).toNat (List.take (I E).toNat o) = (c :: r).takeWhile Sc.aln := by
    rw [I_nat, I_nat, List.drop_take, hc, hE, Nat.add_sub_cancel_left]
    exact (List.prefix_iff_eq_take.1 (List.takeWhile_prefix _)).symm
  have b39 : ((c.toNat : Int) = 39) ↔ c = 39 := byte_is c 39 (by decide)
  -- what is told when the letters and digits are at their end
  have key : ∀ m : Option (Spec.D En.Dop.D2 ⟨[.own 4 32, .fd (.int .i64), .fd (.int .i64)], []⟩), m = (
   if (decide ((0 : Int) ≤ I k ∧ I k < I o.length)) = true then
   (Tryd.m24 (strAt o (I k))).bind fun y3 =>
    if (y3.fst.fst) = true then
     if (decide ((0 : Int) ≤ I k ∧ I k ≤ I E ∧ I E ≤ I o.length)) = true then
     (Tryd.m17 (List.drop (I k).toNat (List.take (I E).toNat o))).bind fun y5 =>
      if (y5.fst.fst) = true then
       Tryd.m12_43 (o) (out) (I k) (Dop.Tok.mk (2 : Int) (List.drop (I k).toNat (List.take (I E).toNat o)) 0 (I k))
      else
       Tryd.m12_43 (o) (out) (I k) (Dop.Tok.mk (1 : Int) (List.drop (I k).toNat (List.take (I E).toNat o)) 0 (I k))
     else none
    else
     if (decide ((0 : Int) ≤ I k ∧ I k < I o.length)) = true then
     (Tryd.m25 (strAt o (I k))).bind fun y5 =>
      if (y5.fst.fst) = true then
       if (decide ((0 : Int) ≤ I k ∧ I k ≤ I E ∧ I E ≤ I o.length)) = true then
       (Tryd.m26 (List.drop (I k).toNat (List.take (I E).toNat o))).bind fun y7 =>
        if (!y7.fst.snd.fst) = true then
         some ((@List.nil Dop.Tok, (I k, ((3 : Int), ()))), ())
        else
         if (decide ((0 : Int) ≤ I k ∧ I k ≤ I E ∧ I E ≤ I o.length)) = true then
         Tryd.m12_43 (o) (out) (I k) (Dop.Tok.mk (3 : Int) (List.drop (I k).toNat (List.take (I E).toNat o)) y7.fst.fst (I k))
         else none
       else none
      else
       if (decide ((0 : Int) ≤ I k ∧ I k < I o.length)) = true then
       if (decide (strAt o (I k) = (39 : Int))) = true then
        (Tryd.m27 (o) (I k)).bind fun y8 =>
         if (decide (y8.fst.snd.fst = (0 : Int))) = true then
          some ((@List.nil Dop.Tok, (I k, ((2 : Int), ()))), ())
         else
          if (inR (I k + y8.fst.snd.fst)) = true then
          if (decide ((0 : Int) ≤ I k ∧ I k ≤ I k + y8.fst.snd.fst ∧ I k + y8.fst.snd.fst ≤ I o.length)) = true then
          Tryd.m12_43 (o) (out) (I k) (Dop.Tok.mk (3 : Int) (List.drop (I k).toNat (List.take (I k + y8.fst.snd.fst).toNat o)) y8.fst.fst (I k))
          else none
          else none
       else
        (Tryd.m15).bind fun y8 =>
         Tryd.m12_36 (o) (out) (I k) (y8.fst.fst) ((0 : Int)) (Dop.Tok.mk 0 [] 0 (I k))
       else none
     else none
   else none) → m = tokR o out k (Sc.tokL (c :: r)) := by
    intro m hm
    rw [hm, htt]
    rw [if_pos (decide_eq_true ⟨I_nn _, I_lt hk⟩), strAt_v hc]
    refine (ob (let_v2 c)).trans ?_
    dsimp only
    cases h1 : Sc.letB c with
    | true =>
      rw [if_pos rfl, if_pos (decide_eq_true ⟨I_nn _, I_le hkE, I_le hEo⟩)]
      refine (ob (is_v2 _)).trans ?_
      dsimp only
      simp only [Sc.tokL, h1, wordsL_eq, if_true]
      by_cases hw : (c :: r).takeWhile Sc.aln ∈ Sc.words
      · simp only [hw, decide_true, if_true, tokR]; rfl
      · simp only [hw, decide_false, Bool.false_eq_true, if_false, tokR]; rfl
    | false =>
      rw [if_neg Bool.false_ne_true, if_pos (decide_eq_true ⟨I_nn _, I_lt hk⟩)]
      refine (ob (dig_v2 c)).trans ?_
      dsimp only
      simp only [Sc.tokL, h1, Bool.false_eq_true, if_false]
      cases h2 : Sc.digB c with
      | true =>
        have hne : (c :: r).takeWhile Sc.aln ≠ [] := by
          rw [List.takeWhile_cons, Sc.aln_of_dig h2]; simp
        rw [if_pos rfl, if_pos (decide_eq_true ⟨I_nn _, I_le hkE, I_le hEo⟩), if_pos rfl]
        refine (ob (value_v2 _ (Nat.le_trans htl (by omega)) hne)).trans ?_
        cases hv : Sc.valL ((c :: r).takeWhile Sc.aln) with
        | none => rfl
        | some v => exact (if_neg Bool.false_ne_true).trans (if_pos (decide_eq_true ⟨I_nn _, I_le hkE, I_le hEo⟩))
      | false =>
        rw [if_neg Bool.false_ne_true, if_neg Bool.false_ne_true, if_pos (decide_eq_true ⟨I_nn _, I_lt hk⟩)]
        by_cases h3 : c = 39
        · subst h3
          rw [if_pos (show decide (((39 : UInt8).toNat : Int) = 39) = true from rfl), if_pos (show (39 : UInt8) = 39 from rfl)]
          refine (ob (char_v2 o k (by omega) hk)).trans ?_
          rw [hc]
          cases hv : Sc.charL (39 :: r) with
          | none => rfl
          | some p =>
            obtain ⟨v, m⟩ := p
            have hm : 0 < m ∧ m ≤ (39 :: r).length := by
              rcases Sc.char_is hv with ⟨a, x, e1, _, _, _, _, e2⟩ | ⟨b, x, e1, _, e2⟩
              · subst e1; subst e2; simp
              · subst e1; subst e2; simp
            have hm0 : ¬ ((m : Int) = 0) := by omega
            have ea : I k + (m : Int) = I (k + m) := by simp only [I_eq]; omega
            have ed : List.drop k (List.take (k + m) o) = (39 :: r).take m := by rw [List.drop_take, hc, Nat.add_sub_cancel_left]
            simp only [chrR, hm0, decide_false, Bool.false_eq_true, if_false, ea, inI (n := k + m) (by omega), I_nn, I_le (Nat.le_add_right k m), I_le (a := k + m) (b := o.length) (by omega), and_self, decide_true, if_true, I_nat, ed, tokR]
        · have b39' : ¬ ((c.toNat : Int) = 39) := fun e => h3 (b39.1 e)
          have sf := sign_find o out k (by omega) (Nat.le_of_lt hk) 0 (I k) Sc.signs 0 rfl signs_falls signs_short
          rw [hc] at sf
          rw [if_neg (by rw [decide_eq_true_eq]; exact b39'), if_neg h3]
          refine (ob signs_v2).trans ?_
          refine sf.trans ?_
          show (match Sc.signL (c :: r) with | none => _ | some x => _) = _
          cases hv : Sc.signL (c :: r) with
          | none => rfl
          | some x => rfl
  intro u
  induction u with
  | nil =>
    intro e h he hke hee
    have : 0 = o.length - e := by rw [← List.length_drop, h]; rfl
    have e1 : e = o.length := by omega
    simp only [List.takeWhile_nil, List.length_nil, Nat.add_zero] at hee
    subst hee
    refine key _ ?_
    rw [Tryd.m12_13_eq, if_neg (by rw [e1]; simp [I_nlt])]
  | cons d u ih =>
    intro e h he hke hee
    have hlt := drop_lt h
    rw [List.takeWhile_cons] at hee
    cases h1 : Sc.letB d with
    | true =>
      have ha := Sc.aln_of_let h1
      rw [ha] at hee
      simp only [if_true, List.length_cons] at hee
      rw [Tryd.m12_13_eq]
      rw [if_pos (decide_eq_true (I_lt hlt)), if_pos (decide_eq_true ⟨I_nn _, I_lt hlt⟩), strAt_v h]
      refine (ob (let_v2 d)).trans ?_
      dsimp only
      rw [if_pos h1, I_s, if_pos (inI (n := e + 1) (by omega))]
      exact ih (e + 1) (drop_s h) hlt (by omega) (by omega)
    | false =>
      rw [Tryd.m12_13_eq]
      rw [if_pos (decide_eq_true (I_lt hlt)), if_pos (decide_eq_true ⟨I_nn _, I_lt hlt⟩), strAt_v h]
      refine (ob (let_v2 d)).trans ?_
      dsimp only
      rw [if_neg (by rw [h1]; exact Bool.false_ne_true), if_pos (decide_eq_true ⟨I_nn _, I_lt hlt⟩)]
      refine (ob (dig_v2 d)).trans ?_
      dsimp only
      cases h2 : Sc.digB d with
      | true =>
        have ha := Sc.aln_of_dig h2
        rw [ha] at hee
        simp only [if_true, List.length_cons] at hee
        rw [if_pos rfl, I_s, if_pos (inI (n := e + 1) (by omega))]
        exact ih (e + 1) (drop_s h) hlt (by omega) (by omega)
      | false =>
        have ha : Sc.aln d = false := by simp [Sc.aln, h1, h2]
        rw [ha] at hee
        simp only [Bool.false_eq_true, if_false, List.length_nil, Nat.add_zero] at hee
        subst hee
        rw [if_neg Bool.false_ne_true]
        exact key _ rfl
set_option linter.unusedSimpArgs false in
theorem end_loop (o : List UInt8) (out : List En.Dop.Tok) (k : Nat) (t : En.Dop.Tok) (ho : o.length ≤ 100000) (hn : out.length ≤ 8192) (hk : k + t.text.length ≤ o.length) :
    Tryd.m12_43 o out (I k) t = if 8192 ≤ out.length then some (([], (I k, ((4 : Int), ()))), ()) else Tryd.m12_5 o (out ++ [t]) (I (k + t.text.length)) := by
  have one : ∀ t : En.Dop.Tok, (t :: @List.nil En.Dop.Tok).length = 1 := fun _ => rfl
  rw [Tryd.m12_43_eq]
  by_cases h : 8192 ≤ out.length
  · have h' : (8192 : Int) ≤ I out.length := by simp only [I_eq]; omega
    simp only [h, h', decide_true, if_true]
  · have h' : ¬ (8192 : Int) ≤ I out.length := by simp only [I_eq]; omega
    simp only [h, h', decide_false, Bool.false_eq_true, if_false, one, andC, room_v (out.length + 1) (by omega), if_true, I_add, inI (n := k + t.text.length) (by omega)]
set_option linter.unusedSimpArgs false in
theorem scan_loop2 : ∀ u cnt, ∀ (s : List UInt8) (out : List En.Dop.Tok) (k : Nat), s.length ≤ 100000 → s.drop k = u → k ≤ s.length → out.length = cnt → cnt ≤ 8192 → Tryd.m12_5 s out (I k) = some (scanR out (Sc.scanL k cnt u)) := by
  have pos : ∀ (s u x : List UInt8) (k : Nat), s.drop k = u → k ≤ s.length → x.length ≤ u.length → s.length - x.length = k + (u.length - x.length) := fun s u x k h hk hx => by
    have hl : u.length = s.length - k := by rw [← h, List.length_drop]
    omega
  have one : ∀ t : En.Dop.Tok, (t :: @List.nil En.Dop.Tok).length = 1 := fun _ => rfl
  have sp : ∀ (s u : List UInt8) (k : Nat), s.length ≤ 100000 → s.drop k = u → k ≤ s.length → Tryd.m23 s (I k) = some ((I (k + (u.length - (Sc.skipL u).1.length)), ((Sc.skipL u).2, ())), ()) := fun s u k hs h hk => by
    rw [skips_v2 s (by omega) k hk, h, pos s u _ k h hk (Sc.skipL_le u)]
  have dr : ∀ (s u p x : List UInt8) (k : Nat), s.drop k = u → u = p ++ x → s.drop (k + (u.length - x.length)) = x := fun s u p x k h e => by
    rw [← List.drop_drop, h, e]
    simp
  -- one token
  have tk : ∀ (s u : List UInt8) (out : List En.Dop.Tok) (k : Nat) (c : UInt8) (r : List UInt8), s.length ≤ 100000 → s.drop k = u → k ≤ s.length → Sc.skipL u = (c :: r, true) →
      Tryd.m12_5 s out (I k) = tokR s out (k + (u.length - (c :: r).length)) (Sc.tokL (c :: r)) := by
    intro s u out k c r hs h hk hx
    obtain ⟨p, hp⟩ := Sc.skip_suf u
    rw [hx] at hp
    simp only at hp
    have hd := dr s u p _ k h hp
    have hlt := drop_lt hd
    rw [Tryd.m12_5_eq, sp s u k hs h hk, hx]
    simp only [Option.bind, Bool.not_true, Bool.false_eq_true, if_false, I_nle hlt, decide_false]
    exact tok_loop s out _ hs hd _ rfl _ _ hd (Nat.le_of_lt hlt) (Nat.le_refl _) rfl
  refine Sc.scan_ind ?_ ?_ ?_ ?_ ?_
  · intro cnt u x hx s out k hs h hk ho hc
    rw [Tryd.m12_5_eq, Sc.scan_bad _ _ hx, sp s u k hs h hk, hx]
    simp only [Option.bind, Bool.not_false, if_true, scanR]
  · intro cnt u hx s out k hs h hk ho hc
    have hl : u.length = s.length - k := by rw [← h, List.length_drop]
    have e : k + u.length = s.length := by omega
    rw [Tryd.m12_5_eq, Sc.scan_end _ _ hx, sp s u k hs h hk, hx]
    simp only [Option.bind, List.length_nil, Nat.sub_zero, e, Bool.not_true, Bool.false_eq_true, if_false, Int.le_refl, decide_true, if_true, one, andC, room_v (out.length + 1) (by omega), scanR, Sc.fin]
  · intro cnt u c r e hx ht s out k hs h hk ho hc
    rw [Sc.scan_err _ _ hx ht, tk s u out k c r hs h hk hx, ht]
    rfl
  · intro cnt u c r kk t n hx ht hc2 s out k hs h hk ho hc
    have hl : u.length = s.length - k := by rw [← h, List.length_drop]
    have hle := Sc.skipL_le u
    rw [hx] at hle
    simp only at hle
    obtain ⟨t', x', g1, g2, _, _, _⟩ := Sc.tok_pre ht
    have hk2 : k + (u.length - (c :: r).length) + t.length ≤ s.length := by
      rw [g1]; rw [g2] at hle ⊢
      simp only [List.length_cons, List.length_append] at hle ⊢
      omega
    rw [Sc.scan_full _ hx ht hc2, tk s u out k c r hs h hk hx, ht]
    show Tryd.m12_43 s out (I _) ⟨kk, t, (n : Int), _⟩ = _
    rw [end_loop s out _ ⟨kk, t, (n : Int), _⟩ hs (by omega) hk2, if_pos (by omega)]
    rfl
  · intro cnt u c t x kk n hx ht hc2 ih s out k hs h hk ho hc
    have hle := Sc.skipL_le u
    rw [hx] at hle
    have hl : u.length = s.length - k := by rw [← h, List.length_drop]
    obtain ⟨p, hp⟩ := Sc.skip_suf u
    rw [hx] at hp
    simp only at hp hle
    have hd := dr s u p _ k h hp
    have hx3 : (c :: (t ++ x)).length = (c :: t).length + x.length := by simp only [List.length_cons, List.length_append]; omega
    have hx2 : s.drop (k + (u.length - (c :: (t ++ x)).length) + (c :: t).length) = x := by
      rw [← List.drop_drop, hd]
      show (c :: t ++ x).drop (c :: t).length = x
      exact List.drop_left
    have hk2 : k + (u.length - (c :: (t ++ x)).length) + (c :: t).length ≤ s.length := by omega
    rw [Sc.scan_tok _ hx ht hc2, Sc.drop_tok, scanR_cons, tk s u out k c _ hs h hk hx, ht]
    show Tryd.m12_43 s out (I _) ⟨kk, c :: t, (n : Int), _⟩ = _
    rw [end_loop s out _ ⟨kk, c :: t, (n : Int), _⟩ hs (by omega) hk2, if_neg (by omega)]
    exact ih (cnt + 1) s (out ++ [_]) _ hs hx2 hk2 (by rw [List.length_append]; show out.length + 1 = _; omega) (by omega)
set_option linter.unusedSimpArgs false in
theorem scan_v2 (s : List UInt8) : Tryd.m12 s = some (scanR [] (scanA s)) := by
  rw [Tryd.m12_eq]
  unfold scanA
  by_cases h : 32768 < s.length
  · have h' : (32768 : Int) < I s.length := by simp only [I_eq]; omega
    simp only [h, h', decide_true, if_true, scanR]
    rfl
  · have h' : ¬ (32768 : Int) < I s.length := by simp only [I_eq]; omega
    simp only [h, h', decide_false, Bool.false_eq_true, if_false]
    exact scan_loop2 s 0 s [] 0 (by omega) rfl (Nat.zero_le _) rfl (by omega)
end Go.Proofs.Law
