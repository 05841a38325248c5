/-
  Layer 7, plain: the laws CodeFuel and CodeInput.
-/
import Derived.Test.YtfonahhlkanabaaLawR
set_option maxRecDepth 20000
set_option maxHeartbeats 800000
namespace Go.Proofs.Law
open Go Go.En Go.Proofs

set_option linter.unusedSimpArgs false in
theorem same_loop (a b : En.Dop.Res) (h : a.output = b.output) (hl : a.output.length < 1000000) : ∀ (n k : Nat), k + n = a.output.length → Try.m16_4 (I a.output.length) (I k) a b = some ((true, ()), ())
  | 0, k, e => by
    have e : k = a.output.length := by omega
    subst e
    rw [Try.m16_4_eq]
    simp only [I_nlt, decide_false, Bool.false_eq_true, if_false]
  | n + 1, k, e => by
    have hk : k < a.output.length := by omega
    have hk2 : k < b.output.length := h ▸ hk
    have ih := same_loop a b h hl n (k + 1) (by omega)
    rw [Try.m16_4_eq]
    simp only [I_lt hk, I_lt hk2, I_nn, I_nat, I_s, I_in hk hl, ← h, and_self, decide_true, if_true, Bool.not_true, Bool.false_eq_true, if_false]
    exact ih
set_option linter.unusedSimpArgs false in
theorem same_v (a : En.Dop.Res) (hl : a.output.length < 1000000) : Try.m16 a a = some ((true, ()), ()) := by
  rw [Try.m16_eq]
  simp only [decide_true, Bool.not_true, Bool.false_eq_true, if_false]
  exact same_loop a a rfl hl a.output.length 0 (by omega)
/-- What a run of so much fuel is, and of more. -/
theorem run_two (u : En.Dop.Unt) (hl : u.funcs.length < 1000000) (hg : u.globals.length < 1000000) (inp : List Int) (hi : (∀ x ∈ inp, 0 ≤ x ∧ x ≤ 255) ∧ inp.length ≤ 200) (t2 t3 : Int) (h23 : t2 ≤ t3) (h3 : t3 ≤ 5000) :
    ∃ a b : En.Dop.Res, Try.m15 u inp t2 = some ((a, ()), ()) ∧ Try.m15 u inp t3 = some ((b, ()), ()) ∧ (a.end_ ≠ 4 → b = a) ∧ a.output <+: b.output ∧ b.output.length < 1000000 := by
  obtain ⟨k1, k2⟩ := run_front u hl hg inp t2 (by omega)
  obtain ⟨k3, k4⟩ := run_front u hl hg inp t3 h3
  by_cases hc : Try.m11 u = some ((true, ()), ()) ∧ okMain u
  · have hu := ur u hl hg hc.1
    have hd : t3.toNat = t2.toNat + (t3.toNat - t2.toNat) := by omega
    have hI := inv0 u hu hc.2 inp hi
    obtain ⟨a, b, r1, r2, r3, r4, r5⟩ := run_more hu (t3.toNat - t2.toNat) t2.toNat 8192 _ hI (by omega) (by simp only [I_eq]; omega) (by omega)
    refine ⟨a, b, ?_, ?_, r3, r4, ?_⟩
    · rw [k2 hc.1 hc.2]
      have := r1 0 0 [] _ _ (look_all u hu.nm) (.inl rfl)
      rw [st0_inp, st0_inp'] at this
      exact this
    · rw [k4 hc.1 hc.2, hd]
      have := r2 0 0 [] _ _ (look_all u hu.nm) (.inl rfl)
      rw [st0_inp, st0_inp'] at this
      exact this
    · simp only [I_eq] at r5; omega
  · exact ⟨_, _, k1 hc, k3 hc, fun h => absurd rfl h, List.prefix_refl _, by simp⟩
set_option linter.unusedSimpArgs false in
/-- THE LAW 'CodeFuel': true of all data. -/
theorem fuel_law (u : En.Dop.Unt) (inp : List Int) (t2 t3 : Int) (hb : ∀ x ∈ inp, 0 ≤ x ∧ x ≤ 255) : Try.m4 u inp t2 t3 = some ((true, ()), ()) := by
  obtain ⟨r, r1, r2⟩ := few u
  rw [Try.m4_eq, r1]
  cases r with
  | false => simp only [Option.bind, Bool.not_false, if_true, awake]
  | true =>
    obtain ⟨h1, h2⟩ := r2 rfl
    simp only [Option.bind, Bool.not_true, Bool.false_eq_true, if_false, awake]
    by_cases c1 : 200 < I inp.length
    · simp only [c1, decide_true, if_true]
    by_cases c2 : t3 < t2
    · simp only [c1, c2, decide_true, decide_false, Bool.false_eq_true, if_false, if_true]
    by_cases c3 : 5000 < t3
    · simp only [c1, c2, c3, decide_true, decide_false, Bool.false_eq_true, if_false, if_true]
    simp only [c1, c2, c3, decide_false, Bool.false_eq_true, if_false]
    obtain ⟨a, b, e1, e2, e3, e4, e5⟩ := run_two u (by omega) (by omega) inp ⟨hb, by simp only [I_eq] at c1; omega⟩ t2 t3 (by omega) (by omega)
    have l1 : a.output.length ≤ b.output.length := e4.length_le
    simp only [e1, e2]
    by_cases c4 : a.end_ = 4
    · have f1 : I a.output.length ≤ I b.output.length := by simp only [I_eq]; omega
      have f2 : List.drop (Int.toNat 0) (List.take (I a.output.length).toNat b.output) = a.output := by
        rw [I_nat]
        obtain ⟨t, ht⟩ := e4
        rw [← ht]
        show List.take a.output.length (a.output ++ t) = a.output
        simp
      simp only [c4, f1, I_nn, Int.le_refl, and_self, decide_true, Bool.not_true, Bool.false_eq_true, if_false, if_true]
      rw [show (Dop.Res.mk 0 0 (List.drop (Int.toNat 0) (List.take (I a.output.length).toNat b.output))) = Dop.Res.mk 0 0 a.output from by rw [f2]]
      rw [same_v ⟨0, 0, a.output⟩ (by show a.output.length < 1000000; omega)]
      rfl
    · have e6 := e3 c4
      subst e6
      simp only [c4, decide_false, Bool.not_false, if_true]
      rw [same_v b e5]
      rfl
/-- The run hangs not on input that is not read. -/
theorem run_noin (u : En.Dop.Unt) (hl : u.funcs.length < 1000000) (hg : u.globals.length < 1000000) (hn : NoG u) (inp : List Int) (hi : (∀ x ∈ inp, 0 ≤ x ∧ x ≤ 255) ∧ inp.length ≤ 200) (t2 : Int) (h3 : t2 ≤ 5000) :
    ∃ a : En.Dop.Res, Try.m15 u inp t2 = some ((a, ()), ()) ∧ Try.m15 u [] t2 = some ((a, ()), ()) ∧ a.output.length < 1000000 := by
  obtain ⟨k1, k2⟩ := run_front u hl hg inp t2 h3
  obtain ⟨k3, k4⟩ := run_front u hl hg [] t2 h3
  by_cases hc : Try.m11 u = some ((true, ()), ()) ∧ okMain u
  · have hu := ur u hl hg hc.1
    have hI := inv0 u hu hc.2 inp hi
    obtain ⟨a, r1, r2, r3⟩ := run_all hu t2.toNat 8192 _ hI (by omega) (by simp only [I_eq]; omega) (by omega)
    refine ⟨a, ?_, ?_, ?_⟩
    · rw [k2 hc.1 hc.2]
      have := r1 0 0 [] _ inp (look_all u hu.nm) (.inr hn)
      rw [st0_inp] at this
      exact this
    · rw [k4 hc.1 hc.2]
      have := r1 0 0 [] _ [] (look_all u hu.nm) (.inr hn)
      rw [st0_inp] at this
      exact this
    · simp only [I_eq] at r3; omega
  · exact ⟨_, k1 hc, k3 hc, by simp⟩
set_option linter.unusedSimpArgs false in
theorem input_ins (u : En.Dop.Unt) (inp : List Int) (t2 : Int) (hl : u.funcs.length < 1000000) (k : Nat) (f : En.Dop.Fnc) (hc : f.code.length < 1000000) (hk : k < u.funcs.length)
    (hnext : (∀ i, i < f.code.length → (f.code.getD i Dop.d3).kind ≠ 9) → Try.m6_4 inp t2 u.funcs (I u.funcs.length) (I (k + 1)) u = some ((true, ()), ())) : ∀ (n j : Nat), j + n = f.code.length → (∀ i, i < j → (f.code.getD i Dop.d3).kind ≠ 9) →
    Try.m6_7 inp t2 u.funcs (I u.funcs.length) (I k) f.code (I f.code.length) (I j) u = some ((true, ()), ())
  | 0, j, h, hb => by
    have e : j = f.code.length := by omega
    subst e
    rw [Try.m6_7_eq]
    simp only [I_nlt, decide_false, Bool.false_eq_true, if_false, I_s, I_in hk hl, if_true]
    exact hnext hb
  | n + 1, j, h, hb => by
    have hj : j < f.code.length := by omega
    have ih := input_ins u inp t2 hl k f hc hk hnext n (j + 1) (by omega)
    rw [Try.m6_7_eq]
    simp only [I_lt hj, I_nn, I_nat, I_s, I_in hj hc, and_self, decide_true, if_true, awake, Option.bind]
    by_cases c : (f.code.getD j Dop.d3).kind = 9
    · simp only [c, decide_true, if_true]
    · simp only [c, decide_false, Bool.false_eq_true, if_false]
      refine ih fun i hi => ?_
      by_cases e : i = j
      · rw [e]; exact c
      · exact hb i (by omega)
set_option linter.unusedSimpArgs false in
theorem input_loop (u : En.Dop.Unt) (inp : List Int) (hi : (∀ x ∈ inp, 0 ≤ x ∧ x ≤ 255) ∧ inp.length ≤ 200) (t2 : Int) (h3 : t2 ≤ 5000) (hl : u.funcs.length < 1000000) (hg : u.globals.length < 1000000) (hcl : ∀ j, j < u.funcs.length → (u.funcs.getD j Dop.d4).code.length < 1000000) : ∀ (n k : Nat), k + n = u.funcs.length →
    (∀ j, j < k → ∀ i, i < (u.funcs.getD j Dop.d4).code.length → ((u.funcs.getD j Dop.d4).code.getD i Dop.d3).kind ≠ 9) → Try.m6_4 inp t2 u.funcs (I u.funcs.length) (I k) u = some ((true, ()), ())
  | 0, k, h, hb => by
    have e : k = u.funcs.length := by omega
    subst e
    obtain ⟨a, a1, a2, a3⟩ := run_noin u hl hg hb inp hi t2 h3
    rw [Try.m6_4_eq, a1, a2]
    simp only [I_nlt, decide_false, Bool.false_eq_true, if_false, Option.bind, same_v a a3, awake, if_true]
  | n + 1, k, h, hb => by
    have hk : k < u.funcs.length := by omega
    have ih := input_loop u inp hi t2 h3 hl hg hcl n (k + 1) (by omega)
    rw [Try.m6_4_eq]
    simp only [I_lt hk, I_nn, I_nat, and_self, decide_true, if_true]
    refine input_ins u inp t2 hl k (u.funcs.getD k Dop.d4) (hcl k hk) hk (fun hx => ih fun j hj => ?_) (u.funcs.getD k Dop.d4).code.length 0 (by omega) (fun i hi => by omega)
    by_cases e : j = k
    · rw [e]; exact hx
    · exact hb j (by omega)
set_option linter.unusedSimpArgs false in
theorem small_len (f : En.Dop.Fnc) (h : Try.m17 f = some ((true, ()), ())) : f.code.length ≤ 60 := by
  apply Classical.byContradiction
  intro hn
  have c : 60 < I f.code.length := by simp only [I_eq]; omega
  rw [Try.m17_eq] at h
  simp only [c, decide_true, if_true] at h
  revert h
  split <;> (intro h; cases h)
set_option linter.unusedSimpArgs false in
theorem few_len (u : En.Dop.Unt) : ∀ (n k : Nat), k + n = 7 → Try.m7_2 (I k) u = some ((true, ()), ()) → ∀ j, k ≤ j → j < u.funcs.length → j ≤ 6 → (u.funcs.getD j Dop.d4).code.length ≤ 60
  | 0, k, h, hm => fun j h1 h2 h3 => by omega
  | n + 1, k, h, hm => fun j h1 h2 h3 => by
    obtain ⟨q, hq⟩ := small (u.funcs.getD k Dop.d4)
    have e4 : inR (I (k + 1)) = true := by rw [inR_iff]; simp only [I_eq]; omega
    have e : I k ≤ 6 := by simp only [I_eq]; omega
    have hk : k < u.funcs.length := by omega
    rw [Try.m7_2_eq] at hm
    simp only [I_lt hk, e, I_nn, I_nat, I_s, e4, and_self, decide_true, if_true, hq, Option.bind] at hm
    cases q with
    | false => simp at hm
    | true =>
      simp only [Bool.not_true, Bool.false_eq_true, if_false] at hm
      have ih := few_len u n (k + 1) (by omega) hm
      by_cases e : j = k
      · rw [e]; exact small_len _ hq
      · exact ih j (by omega) h2 h3
set_option linter.unusedSimpArgs false in
/-- THE LAW 'CodeInput': true of all data. -/
theorem input_law (u : En.Dop.Unt) (inp : List Int) (t2 : Int) (hb : ∀ x ∈ inp, 0 ≤ x ∧ x ≤ 255) : Try.m6 u inp t2 = some ((true, ()), ()) := by
  obtain ⟨r, r1, r2⟩ := few u
  rw [Try.m6_eq, r1]
  cases r with
  | false => simp only [Option.bind, Bool.not_false, if_true, awake]
  | true =>
    obtain ⟨h1, h2⟩ := r2 rfl
    have hc := few_len u 7 0 (by omega) (by rw [Try.m7_eq] at r1; exact r1)
    simp only [Option.bind, Bool.not_true, Bool.false_eq_true, if_false, awake]
    by_cases c1 : 200 < I inp.length
    · simp only [c1, decide_true, if_true]
    by_cases c3 : 5000 < t2
    · simp only [c1, c3, decide_true, decide_false, Bool.false_eq_true, if_false, if_true]
    simp only [c1, c3, decide_false, Bool.false_eq_true, if_false]
    exact input_loop u inp ⟨hb, by simp only [I_eq] at c1; omega⟩ t2 (by omega) (by omega) (by omega) (fun j hj => by have := hc j (by omega) hj (by omega); omega) u.funcs.length 0 (by omega) (fun j hj => by omega)
end Go.Proofs.Law
