/-
  Layer 7, plain: the whole run, and the laws CodeFuel and CodeInput.
-/
import Derived.Test.YtfonahhlkanabaaLawQ
set_option maxRecDepth 20000
set_option maxHeartbeats 800000
namespace Go.Proofs.Law
open Go Go.En Go.Proofs

noncomputable def St.run (n : Nat) (x0 x1 : Int) (x2 : List Int) (b : List (List UInt8 × En.Dop.Fnc)) (s : St) := Try.m15_18 (I n) x0 x1 x2 b s.mem s.sp s.inp s.rs.reverse s.ov s.e s.c s.out
set_option linter.unusedSimpArgs false in
theorem run_over (n : Nat) (x0 x1 : Int) (x2 : List Int) (b : List (List UInt8 × En.Dop.Fnc)) (s : St) (h : s.ov = true) : s.run n x0 x1 x2 b = some ((⟨s.e, s.c, s.out⟩, ()), ()) := by
  unfold St.run
  rw [Try.m15_18_eq, h]
  simp only [Bool.not_true, Bool.false_eq_true, if_false]
  split <;> rfl
set_option linter.unusedSimpArgs false in
theorem run_zero (x0 x1 : Int) (x2 : List Int) (b : List (List UInt8 × En.Dop.Fnc)) (s : St) (h : s.ov = false) : s.run 0 x0 x1 x2 b = some ((⟨4, 0, s.out⟩, ()), ()) := by
  unfold St.run
  rw [Try.m15_18_eq, h]
  simp (decide := true) only [I_0, decide_false, Bool.not_false, Bool.false_eq_true, if_false, if_true]
set_option linter.unusedSimpArgs false in
theorem run_succ (n : Nat) (hn : n < 1000000) (x0 x1 : Int) (x2 : List Int) (b : List (List UInt8 × En.Dop.Fnc)) (s s' : St) (h : s.ov = false) (hg : s.go b = s'.enc b) : s.run (n + 1) x0 x1 x2 b = s'.run n x0 x1 x2 b := by
  unfold St.run
  unfold St.go at hg
  rw [Try.m15_18_eq, hg, h]
  have h1 : (0 : Int) < I (n + 1) := by simp only [I_eq]; omega
  have h2 : inR (I n) = true := by rw [inR_iff]; simp only [I_eq]; omega
  have h3 : I (n + 1) - 1 = I n := by simp only [I_eq]; omega
  simp only [h1, h2, h3, decide_true, if_true, Bool.not_false, St.enc, Option.bind]
/-- Of all maps and inputs that count for the same: the run is this. -/
def Runs (u : En.Dop.Unt) (n : Nat) (s : St) (a : En.Dop.Res) : Prop := ∀ x0 x1 x2 b i2, Look u b → i2 = s.inp ∨ NoG u → St.run n x0 x1 x2 b { s with inp := i2 } = some ((a, ()), ())
theorem runs_step {u : En.Dop.Unt} {n : Nat} (hn : n < 1000000) {s s' : St} {a : En.Dop.Res} (h : s.ov = false) (hg : Goes u s s') (hr : Runs u n s' a) : Runs u (n + 1) s a := by
  intro x0 x1 x2 b i2 hb hi
  obtain ⟨j, h1, h2⟩ := hg b i2 hb hi
  rw [run_succ n hn x0 x1 x2 b { s with inp := i2 } { s' with inp := j } h h1]
  exact hr x0 x1 x2 b j hb (hi.imp h2 id)
theorem step_any {u : En.Dop.Unt} (hu : UR u) {K : Int} (hK : 0 ≤ K ∧ K < 80000000000) {s : St} (hI : Inv u K s) (h : s.ov = false) : ∃ s', Next u K s s' := by
  obtain ⟨mem, sp, inp, rs, ov, e, c, out⟩ := s
  have h : ov = false := h
  subst h
  cases rs with
  | nil => exact absurd rfl (hI.live rfl).2.1
  | cons fr r => exact step_all hu hK hI
/-- THE RUN ENDS. -/
theorem run_all {u : En.Dop.Unt} (hu : UR u) : ∀ (n : Nat) (K : Int) (s : St), Inv u K s → 0 ≤ K → K + 8192 * I n < 80000000000 → n < 1000000 →
    ∃ a : En.Dop.Res, Runs u n s a ∧ s.out <+: a.output ∧ 8192 * I a.output.length ≤ K + 8192 * I n := by
  intro n
  induction n with
  | zero =>
    intro K s hI h0 hK hn
    cases ho : s.ov with
    | true => exact ⟨⟨s.e, s.c, s.out⟩, fun x0 x1 x2 b i2 hb hi => run_over 0 x0 x1 x2 b _ ho, List.prefix_refl _, by have := hI.out; simp only [I_eq] at this ⊢; omega⟩
    | false => exact ⟨⟨4, 0, s.out⟩, fun x0 x1 x2 b i2 hb hi => run_zero x0 x1 x2 b _ ho, List.prefix_refl _, by have := hI.out; simp only [I_eq] at this ⊢; omega⟩
  | succ n ih =>
    intro K s hI h0 hK hn
    cases ho : s.ov with
    | true => exact ⟨⟨s.e, s.c, s.out⟩, fun x0 x1 x2 b i2 hb hi => run_over (n + 1) x0 x1 x2 b _ ho, List.prefix_refl _, by have := hI.out; simp only [I_eq] at this ⊢; omega⟩
    | false =>
      obtain ⟨s', hg, hI', hp⟩ := step_any hu ⟨h0, by simp only [I_eq] at hK; omega⟩ hI ho
      obtain ⟨a, h1, h2, h3⟩ := ih (K + 8192) s' hI' (by omega) (by simp only [I_eq] at hK ⊢; omega) (by omega)
      exact ⟨a, runs_step (by omega) ho hg h1, hp.trans h2, by simp only [I_eq] at h3 ⊢; omega⟩
/-- WITH MORE FUEL THE RUN GOES ON. -/
theorem run_more {u : En.Dop.Unt} (hu : UR u) (d : Nat) : ∀ (n : Nat) (K : Int) (s : St), Inv u K s → 0 ≤ K → K + 8192 * I (n + d) < 80000000000 → n + d < 1000000 →
    ∃ a b : En.Dop.Res, Runs u n s a ∧ Runs u (n + d) s b ∧ (a.end_ ≠ 4 → b = a) ∧ a.output <+: b.output ∧ 8192 * I b.output.length ≤ K + 8192 * I (n + d) := by
  intro n
  induction n with
  | zero =>
    intro K s hI h0 hK hn
    obtain ⟨b, h1, h2, h3⟩ := run_all hu (0 + d) K s hI h0 hK hn
    cases ho : s.ov with
    | true => exact ⟨⟨s.e, s.c, s.out⟩, ⟨s.e, s.c, s.out⟩, fun x0 x1 x2 b i2 hb hi => run_over 0 x0 x1 x2 b _ ho, fun x0 x1 x2 b i2 hb hi => run_over (0 + d) x0 x1 x2 b _ ho, fun _ => rfl, List.prefix_refl _, by have := hI.out; simp only [I_eq] at this ⊢; omega⟩
    | false => exact ⟨⟨4, 0, s.out⟩, b, fun x0 x1 x2 b i2 hb hi => run_zero x0 x1 x2 b _ ho, h1, fun h => absurd rfl h, h2, h3⟩
  | succ n ih =>
    intro K s hI h0 hK hn
    cases ho : s.ov with
    | true => exact ⟨⟨s.e, s.c, s.out⟩, ⟨s.e, s.c, s.out⟩, fun x0 x1 x2 b i2 hb hi => run_over (n + 1) x0 x1 x2 b _ ho, fun x0 x1 x2 b i2 hb hi => run_over (n + 1 + d) x0 x1 x2 b _ ho, fun _ => rfl, List.prefix_refl _, by have := hI.out; simp only [I_eq] at this ⊢; omega⟩
    | false =>
      have e : n + 1 + d = n + d + 1 := by omega
      obtain ⟨s', hg, hI', hp⟩ := step_any hu ⟨h0, by simp only [I_eq] at hK; omega⟩ hI ho
      obtain ⟨a, b, h1, h2, h3, h4, h5⟩ := ih (K + 8192) s' hI' (by omega) (by simp only [I_eq] at hK ⊢; omega) (by omega)
      exact ⟨a, b, runs_step (by omega) ho hg h1, e ▸ runs_step (by omega) ho hg h2, h3, h4, by simp only [I_eq] at h5 ⊢; omega⟩

/-! Where the run begins. -/
def gmem (mem : List Int) (gs : List En.Dop.Glb) : List Int := gs.foldl (fun m g => if g.at_ < I m.length then m.set g.at_.toNat g.init_ else m) mem
theorem gmem_len : ∀ (gs : List En.Dop.Glb) (mem : List Int), (gmem mem gs).length = mem.length
  | [], _ => rfl
  | g :: r, mem => by
    have := gmem_len r (if g.at_ < I mem.length then mem.set g.at_.toNat g.init_ else mem)
    simp only [gmem, List.foldl_cons] at this ⊢
    rw [this]; split <;> simp
set_option linter.unusedSimpArgs false in
theorem glob_init (u : En.Dop.Unt) (hu : UR u) (hg : u.globals.length < 1000000) (t2 t7 x0 x1 : Int) (x2 : List Int) (b : List (List UInt8 × En.Dop.Fnc)) (sp : Int) (inp : List Int) (stk : List En.Dop.Frm) (ov : Bool) (e c : Int) (out : List Int) : ∀ (n k : Nat) (mem : List Int), k + n = u.globals.length →
    Try.m15_6 t2 t7 u.globals (I u.globals.length) (I k) u x0 x1 x2 b mem sp inp stk ov e c out = Try.m15_12 t2 t7 u.funcs (I u.funcs.length) 0 u x0 x1 x2 b (gmem mem (u.globals.drop k)) sp inp stk ov e c out
  | 0, k, mem, h => by
    have e : k = u.globals.length := by omega
    subst e
    rw [Try.m15_6_eq, List.drop_eq_nil_of_le (Nat.le_refl _)]
    simp only [I_nlt, decide_false, Bool.false_eq_true, if_false, gmem, List.foldl_nil]
  | n + 1, k, mem, h => by
    have hk : k < u.globals.length := by omega
    have ih := glob_init u hu hg t2 t7 x0 x1 x2 b sp inp stk ov e c out n (k + 1)
    have h1 := hu.glob k hk
    rw [Try.m15_6_eq, drop_get Dop.d5 hk]
    simp only [I_lt hk, I_nn, I_nat, I_s, I_in hk hg, and_self, decide_true, if_true, gmem, List.foldl_cons]
    by_cases c : (u.globals.getD k Dop.d5).at_ < I mem.length
    · have c1 : 0 ≤ (u.globals.getD k Dop.d5).at_ := by omega
      have c2 : (u.globals.getD k Dop.d5).at_.toNat < mem.length := by simp only [I_eq] at c; omega
      simp only [c, c1, c2, and_self, decide_true, if_true]
      exact ih _ (by omega)
    · simp only [c, decide_false, Bool.false_eq_true, if_false]
      exact ih _ (by omega)
def fby (b : List (List UInt8 × En.Dop.Fnc)) (fs : List En.Dop.Fnc) : List (List UInt8 × En.Dop.Fnc) := fs.foldl (fun b f => mputS b f.name f) b
theorem look_cons {α : Type} (k k' : List UInt8) (v : α) (r : List (List UInt8 × α)) : mlookS ((k, v) :: r) k' = if k' = k then some v else mlookS r k' := by
  show (match decide (k' = k) with | true => some v | false => mlookS r k') = _
  by_cases h : k' = k <;> simp [h]
theorem put_cons {α : Type} (k k' : List UInt8) (v v' : α) (r : List (List UInt8 × α)) : mputS ((k, v) :: r) k' v' = if k' = k then (k', v') :: r else (k, v) :: mputS r k' v' := by
  show (match decide (k' = k) with | true => (k', v') :: r | false => (k, v) :: mputS r k' v') = _
  by_cases h : k' = k <;> simp [h]
theorem look_put {α : Type} (k k' : List UInt8) (v : α) : ∀ (b : List (List UInt8 × α)), mlookS (mputS b k v) k' = if k' = k then some v else mlookS b k'
  | [] => look_cons k k' v []
  | (y, w) :: r => by
    have ih := look_put k k' v r
    rw [put_cons]
    by_cases h : k = y
    · subst h
      rw [if_pos rfl, look_cons, look_cons]
      by_cases h2 : k' = k <;> simp only [h2, if_true, if_false]
    · rw [if_neg h, look_cons, look_cons, ih]
      by_cases h2 : k' = y
      · have h3 : ¬ y = k := fun e => h e.symm
        subst h2
        simp only [h3, if_true, if_false]
      · simp only [h2, if_false]
theorem fnd_name (nm : List UInt8) : ∀ (l : List En.Dop.Fnc) (k : Nat), 0 ≤ fnd nm l k → I k ≤ fnd nm l k ∧ ∃ j, j < l.length ∧ fnd nm l k = I (k + j) ∧ (l.getD j Dop.d4).name = nm
  | [], k, h => by simp only [fnd] at h; omega
  | f :: r, k, h => by
    simp only [fnd] at h ⊢
    by_cases c : f.name = nm
    · simp only [c, if_true]
      exact ⟨Int.le_refl _, 0, by simp, rfl, by simpa using c⟩
    · simp only [c, if_false] at h ⊢
      obtain ⟨h1, j, h2, h3, h4⟩ := fnd_name nm r (k + 1) h
      exact ⟨by simp only [I_eq] at h1 ⊢; omega, j + 1, by simp; omega, by rw [h3]; simp only [I_eq]; omega, by simpa using h4⟩
theorem take_succ {α : Type} {l : List α} {k : Nat} (d : α) (h : k < l.length) : l.take (k + 1) = l.take k ++ [l.getD k d] := by
  rw [List.take_succ_eq_append_getElem h]; simp [List.getD, h]
theorem look_fby (u : En.Dop.Unt) (hn : ∀ j, j < u.funcs.length → fnd (u.funcs.getD j Dop.d4).name u.funcs 0 = I j) : ∀ (k : Nat), k ≤ u.funcs.length → ∀ j, j < k → mlookS (fby [] (u.funcs.take k)) (u.funcs.getD j Dop.d4).name = some (u.funcs.getD j Dop.d4)
  | 0, _, j, h => by omega
  | k + 1, hk, j, h => by
    have ih := look_fby u hn k (by omega)
    rw [take_succ Dop.d4 (by omega : k < u.funcs.length)]
    simp only [fby, List.foldl_append, List.foldl_cons, List.foldl_nil]
    rw [look_put]
    by_cases c : (u.funcs.getD j Dop.d4).name = (u.funcs.getD k Dop.d4).name
    · have h1 := hn j (by omega)
      have h2 := hn k (by omega)
      rw [c, h2] at h1
      have : j = k := by simp only [I_eq] at h1; omega
      subst this
      simp
    · simp only [c, if_false]
      have : j ≠ k := fun e => c (by rw [e])
      exact ih j (by omega)
theorem look_all (u : En.Dop.Unt) (hn : ∀ j, j < u.funcs.length → fnd (u.funcs.getD j Dop.d4).name u.funcs 0 = I j) : Look u (fby [] u.funcs) := by
  intro nm h
  obtain ⟨-, j, h1, h2, h3⟩ := fnd_name nm u.funcs 0 h
  have h4 := look_fby u hn u.funcs.length (Nat.le_refl _) j h1
  rw [List.take_length, h3] at h4
  have : (fnd nm u.funcs 0).toNat = j := by rw [h2]; simp only [I_eq]; omega
  rw [this, h4]
theorem fuel_eq (t2 : Int) (h : t2 ≤ 5000) : (if (1000000 : Int) < if t2 < (0 : Int) then (0 : Int) else t2 then (1000000 : Int) else if t2 < (0 : Int) then (0 : Int) else t2) = I t2.toNat := by
  simp only [I_eq]
  split <;> split at * <;> omega
def frame0 (f : En.Dop.Fnc) (sp : Int) : En.Dop.Frm := ⟨f, List.take (List.replicate f.regs.toNat (0 : Int)).length ([] : List Int) ++ List.drop ([] : List Int).length (List.replicate f.regs.toNat (0 : Int)), sp, 0, -1⟩
/-- The state at first. -/
def st0 (f : En.Dop.Fnc) (top : Int) (mem inp : List Int) : St := if 4096 < top + f.frame then ⟨mem, top, inp, [], true, 3, 0, []⟩ else ⟨mem, top + f.frame, inp, [frame0 f top], false, 0, 0, []⟩
set_option linter.unusedSimpArgs false in
theorem func_init (u : En.Dop.Unt) (hu : UR u) (hl : u.funcs.length < 1000000) (m : Nat) (hm : m < u.funcs.length) (t2 : Int) (ht : t2 ≤ 5000) (x0 x1 : Int) (x2 : List Int) (mem inp : List Int) (hmem : mem.length = 4096) : ∀ (n k : Nat) (b : List (List UInt8 × En.Dop.Fnc)), k + n = u.funcs.length →
    Try.m15_12 t2 (I m) u.funcs (I u.funcs.length) (I k) u x0 x1 x2 b mem u.top inp [] false 0 0 [] = St.run t2.toNat x0 x1 x2 (fby b (u.funcs.drop k)) (st0 (u.funcs.getD m Dop.d4) u.top mem inp)
  | 0, k, b, h => by
    have e : k = u.funcs.length := by omega
    subst e
    have h1 := (hu.fr m hm).frame
    have h2 := (hu.fr m hm).regs
    have h3 := hu.top
    have i1 : inR (u.top + (u.funcs.getD m Dop.d4).frame) = true := by rw [inR_iff]; omega
    have i2 : I mem.length = 4096 := by rw [hmem]; rfl
    have i3 : 0 ≤ (u.funcs.getD m Dop.d4).regs ∧ (u.funcs.getD m Dop.d4).regs ≤ (u.funcs.getD m Dop.d4).regs ∧ (u.funcs.getD m Dop.d4).regs * (I 8 + 1) ≤ 140737488355328 := by simp only [I_eq]; omega
    rw [Try.m15_12_eq, List.drop_eq_nil_of_le (Nat.le_refl _)]
    simp only [I_nlt, I_lt hm, I_nn, I_nat, and_self, i1, i2, i3, room_112, decide_true, decide_false, Bool.false_eq_true, if_false, if_true, fuel_eq t2 ht, fby, List.foldl_nil]
    unfold St.run st0
    by_cases c : 4096 < u.top + (u.funcs.getD m Dop.d4).frame
    · simp only [c, decide_true, if_true, List.reverse_nil]
    · simp only [c, decide_false, Bool.false_eq_true, if_false, List.nil_append, List.reverse_cons, List.reverse_nil, frame0]
  | n + 1, k, b, h => by
    have hk : k < u.funcs.length := by omega
    have ih := func_init u hu hl m hm t2 ht x0 x1 x2 mem inp hmem n (k + 1)
    rw [Try.m15_12_eq, drop_get Dop.d4 hk]
    simp only [I_lt hk, I_nn, I_nat, I_s, I_in hk hl, and_self, decide_true, if_true, fby, List.foldl_cons]
    exact ih _ (by omega)
/-- The memory at first. -/
def mem0 (u : En.Dop.Unt) : List Int := gmem (List.replicate 4096 (0 : Int)) u.globals
/-- The unit has a main that may be. -/
def okMain (u : En.Dop.Unt) : Prop := 0 ≤ fnd mainN u.funcs 0 ∧ ¬ 0 < (u.funcs.getD (fnd mainN u.funcs 0).toNat Dop.d4).params
instance (u : En.Dop.Unt) : Decidable (okMain u) := inferInstanceAs (Decidable (_ ∧ _))
set_option linter.unusedSimpArgs false in
theorem run_front (u : En.Dop.Unt) (hl : u.funcs.length < 1000000) (hg : u.globals.length < 1000000) (inp : List Int) (t2 : Int) (ht : t2 ≤ 5000) :
    (¬ (Try.m11 u = some ((true, ()), ()) ∧ okMain u) → Try.m15 u inp t2 = some ((⟨4, 0, []⟩, ()), ())) ∧
    (Try.m11 u = some ((true, ()), ()) → okMain u → Try.m15 u inp t2 = St.run t2.toNat 0 0 [] (fby [] u.funcs) (st0 (u.funcs.getD (fnd mainN u.funcs 0).toNat Dop.d4) u.top (mem0 u) inp)) := by
  have hf : Try.m13 u [109, 97, 105, 110] = some ((fnd mainN u.funcs 0, ()), ()) := m13_v u mainN hl
  obtain ⟨r, hr, -⟩ := unit u hl hg
  rw [Try.m15_eq, hf, hr]
  cases r with
  | false =>
    refine ⟨fun _ => ?_, fun h => by simp at h⟩
    simp only [Option.bind, Bool.not_false, if_true]
    try rfl
  | true =>
    simp only [Option.bind, Bool.not_true, Bool.false_eq_true, if_false]
    have hu := ur u hl hg hr
    rcases fnd_lt mainN u.funcs 0 with h0 | ⟨h0, h1⟩
    · have e : fnd mainN u.funcs 0 < 0 := by omega
      refine ⟨fun _ => ?_, fun _ h => absurd h.1 (by omega)⟩
      simp only [e, decide_true, if_true]
      try rfl
    · have e : ¬ fnd mainN u.funcs 0 < 0 := by omega
      have e1 : fnd mainN u.funcs 0 < I u.funcs.length := by simpa using h1
      by_cases c : 0 < (u.funcs.getD (fnd mainN u.funcs 0).toNat Dop.d4).params
      · refine ⟨fun _ => ?_, fun _ h => absurd c h.2⟩
        simp only [e, e1, h0, c, and_self, decide_true, decide_false, Bool.false_eq_true, if_false, if_true]
        try rfl
      · refine ⟨fun h => absurd ⟨trivial, h0, c⟩ h, fun _ _ => ?_⟩
        have e2 : (0 : Int) ≤ 4096 ∧ (4096 : Int) ≤ 4096 ∧ (4096 : Int) * (I 8 + 1) ≤ 140737488355328 := by simp only [I_eq]; omega
        have e3 : fnd mainN u.funcs 0 = I (fnd mainN u.funcs 0).toNat := by simp only [I_eq]; omega
        have e4 : (fnd mainN u.funcs 0).toNat < u.funcs.length := by simp only [I_eq] at e1; omega
        simp only [e, e1, h0, c, e2, and_self, decide_true, decide_false, Bool.false_eq_true, if_false, if_true]
        have k1 := glob_init u hu hg t2 (fnd mainN u.funcs 0) 0 0 [] [] u.top inp [] false 0 0 [] u.globals.length 0 (List.replicate 4096 (0 : Int)) (by omega)
        have k2 := func_init u hu hl _ e4 t2 ht 0 0 [] (mem0 u) inp (by rw [mem0, gmem_len, List.length_replicate]) u.funcs.length 0 [] (by omega)
        rw [← e3] at k2
        exact k1.trans k2
theorem inv0 (u : En.Dop.Unt) (hu : UR u) (hm : okMain u) (inp : List Int) (hi : (∀ x ∈ inp, 0 ≤ x ∧ x ≤ 255) ∧ inp.length ≤ 200) : Inv u 8192 (st0 (u.funcs.getD (fnd mainN u.funcs 0).toNat Dop.d4) u.top (mem0 u) inp) := by
  have hmem : (mem0 u).length = 4096 := by rw [mem0, gmem_len, List.length_replicate]
  have e4 : (fnd mainN u.funcs 0).toNat < u.funcs.length := by
    have := hm.1
    rcases fnd_lt mainN u.funcs 0 with h0 | ⟨h0, h1⟩
    · omega
    · simp only [I_eq] at h1; omega
  have hf := hu.fr _ e4
  generalize hge : u.funcs.getD (fnd mainN u.funcs 0).toNat Dop.d4 = f at hf
  have ht := hu.top
  have hf1 := hf.frame
  have hf2 := hf.regs
  have hf3 := hf.len
  unfold st0
  split
  · exact { mem := hmem, inp := hi, live := fun h => (by cases h), over := fun _ => .inr (.inr rfl), out := by simp [I_eq] }
  · refine { mem := hmem, inp := hi, live := fun _ => ⟨?_, by simp, by simp only; omega, by simp only; omega, by simp [I_eq]⟩, over := fun h => (by cases h), out := by simp [I_eq] }
    exact { f := ⟨_, e4, hge.symm⟩, regs := by simp only [frame0, I_eq, List.length_append, List.length_take, List.length_drop, List.length_replicate, List.length_nil]; omega, at_ := by simp only [frame0, I_eq]; omega, base := by simp only [frame0]; omega }
theorem st0_inp (f : En.Dop.Fnc) (top : Int) (mem i j : List Int) : { st0 f top mem i with inp := j } = st0 f top mem j := by
  unfold st0; split <;> rfl
theorem st0_inp' (f : En.Dop.Fnc) (top : Int) (mem i : List Int) : (st0 f top mem i).inp = i := by
  unfold st0; split <;> rfl
end Go.Proofs.Law
