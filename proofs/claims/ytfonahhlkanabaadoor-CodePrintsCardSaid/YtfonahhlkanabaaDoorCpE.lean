/-
  The law 'CodePrints', plain.
-/
import Derived.Test.YtfonahhlkanabaaDoorCpD
set_option maxRecDepth 20000
set_option linter.unusedSimpArgs false
set_option linter.unusedVariables false
namespace Go.Proofs.Law
open Go Go.Lib Go.En Go.Proofs

theorem clone_loop (f : En.Dop.Fnc) (hf : f.code.length ≤ 60) : ∀ (n k : Nat) (c : List En.Dop.Ins), k + n = c.length → c.length = f.code.length →
    Tryd.m3_14 (I c.length) (I k) f f.name f.params f.regs f.frame f.code f.name f.params f.regs f.frame c = some ((true, ()), ())
  | 0, k, c, h, hc => by
    have e : k = c.length := by omega
    rw [Tryd.m3_14_eq]
    subst e
    simp only [I_nlt, decide_false, Bool.false_eq_true, if_false]
    rw [same_v _ _ (by show f.code.length < 1000000; omega), hc, awake]
    simp only [Option.bind, decide_true, if_true]
  | n + 1, k, c, h, hc => by
    have hk : k < c.length := by omega
    rw [Tryd.m3_14_eq]
    simp only [I_lt hk, I_nn, I_nat, hk, and_self, decide_true, if_true]
    rw [wrap_s (by omega)]
    have e : ∀ x, I c.length = I (c.set k x).length := fun x => by rw [List.length_set]
    rw [e]
    exact clone_loop f hf n (k + 1) _ (by rw [List.length_set]; omega) (by rw [List.length_set]; exact hc)
/-- What the loop over the code keeps. -/
def Kp (f g : En.Dop.Fnc) (t : Bool) (k : Nat) : Prop :=
  (t = true → f.name = g.name ∧ f.params = g.params ∧ f.regs = g.regs ∧ f.frame = g.frame ∧ f.code.length = g.code.length ∧ f.code.take k = g.code.take k) ∧ (t = false → f ≠ g)
theorem tail_t (f g : En.Dop.Fnc) (hf : RF f) (hg : RF g) (t : Bool) (k : Nat) (hk : Kp f g t k) (hk' : t = true → f.code.length ≤ k) : t = decide (f = g) := by
  cases t with
  | false => exact (decide_eq_false (hk.2 rfl)).symm
  | true =>
    obtain ⟨h1, h2, h3, h4, h5, h6⟩ := hk.1 rfl
    have h7 := hk' rfl
    rw [List.take_of_length_le h7, List.take_of_length_le (by omega)] at h6
    refine (decide_eq_true ?_).symm
    obtain ⟨⟩ := f
    obtain ⟨⟩ := g
    simp_all
theorem take_next {α : Type} {l m : List α} {k : Nat} (d : α) (h : k < l.length) (hm : k < m.length) : l.take (k + 1) = m.take (k + 1) ↔ l.take k = m.take k ∧ l.getD k d = m.getD k d := by
  rw [List.take_succ_eq_append_getElem h, List.take_succ_eq_append_getElem hm]
  constructor
  · intro e
    have := List.append_inj e (by simp; omega)
    refine ⟨this.1, ?_⟩
    simpa [List.getD, h, hm] using this.2
  · rintro ⟨e1, e2⟩
    simp only [List.getD, List.getElem?_eq_getElem h, List.getElem?_eq_getElem hm, Option.getD_some] at e2
    rw [e1, e2]
theorem prints_loop (f g : En.Dop.Fnc) (hf : RF f) (hg : RF g) : ∀ (n k : Nat) (t : Bool), k + n = f.code.length → Kp f g t k → Tryd.m3_5 t (I k) f g = some ((true, ()), ()) := by
  have hfin : ∀ (t : Bool), t = decide (f = g) → ∀ {x : Option (Spec.D En.Dop.D7 ⟨[.fd .bool], []⟩)},
      x = ((Tryd.m6 (f) (g)).bind fun y4 =>
     if (!y4.fst.fst == t) = true then
      some ((false, ()), ())
     else
      (Tryd.m7 (f)).bind fun y6 =>
       (Tryd.m7 (g)).bind fun y7 =>
        if (!decide (y6.fst.fst = y7.fst.fst) == t) = true then
         some ((false, ()), ())
        else
         if (andC none (room (128 : Nat) ((@List.nil Dop.Ins).length + f.code.length))) = true then
         if (decide ((0 : Int) ≤ I (@List.nil Dop.Ins ++ f.code).length ∧ I (@List.nil Dop.Ins ++ f.code).length ≤ I (@List.nil Dop.Ins ++ f.code).length ∧ I (@List.nil Dop.Ins ++ f.code).length * (I (128 : Nat) + (1 : Int)) ≤ (140737488355328 : Int))) = true then
         Tryd.m3_14 (I (List.take (List.replicate (I (@List.nil Dop.Ins ++ f.code).length).toNat Dop.d3).length (@List.nil Dop.Ins ++ f.code) ++ List.drop (@List.nil Dop.Ins ++ f.code).length (List.replicate (I (@List.nil Dop.Ins ++ f.code).length).toNat Dop.d3)).length) ((0 : Int)) (f) (f.name) (f.params) (f.regs) (f.frame) (@List.nil Dop.Ins ++ f.code) (f.name) (f.params) (f.regs) (f.frame) (List.take (List.replicate (I (@List.nil Dop.Ins ++ f.code).length).toNat Dop.d3).length (@List.nil Dop.Ins ++ f.code) ++ List.drop (@List.nil Dop.Ins ++ f.code).length (List.replicate (I (@List.nil Dop.Ins ++ f.code).length).toNat Dop.d3))
         else none
         else none) → x = some ((true, ()), ()) := by
    intro t ht x hx
    have hlen := hf.len
    rw [hx, same_v f g (by omega), print_v hf, print_v hg]
    have e1 : decide (printL goPrintTabs f = printL goPrintTabs g) = decide (f = g) := by
      by_cases e : f = g
      · subst e; simp
      · rw [decide_eq_false e, decide_eq_false (fun h => e (print_inj _ h))]
    have hr : room 128 (0 + f.code.length) = true := by
      refine decide_eq_true ?_
      omega
    simp only [Option.bind, e1, ← ht, List.nil_append, andC_none, List.length_nil, hr, if_true]
    rw [if_neg (by simp), if_neg (by simp), if_pos (decide_eq_true ⟨I_nn _, Int.le_refl _, by simp only [I_eq]; omega⟩)]
    have e2 : (List.replicate (I f.code.length).toNat Dop.d3).length = f.code.length := by rw [List.length_replicate, I_nat]
    have e3 : List.take (List.replicate (I f.code.length).toNat Dop.d3).length f.code ++ List.drop f.code.length (List.replicate (I f.code.length).toNat Dop.d3) = f.code := by
      rw [e2, List.take_length, List.drop_eq_nil_of_le (by omega), List.append_nil]
    rw [e3]
    exact clone_loop f hlen f.code.length 0 f.code (by omega) rfl
  intro n
  induction n with
  | zero =>
    intro k t h hk
    have e : k = f.code.length := by omega
    rw [Tryd.m3_5_eq]
    subst e
    simp only [I_nlt, decide_false, Bool.false_eq_true, if_false]
    exact hfin t (tail_t f g hf hg t _ hk (fun _ => Nat.le_refl _)) rfl
  | succ n ih =>
    intro k t h hk
    have hkl : k < f.code.length := by omega
    have hlen := hf.len
    rw [Tryd.m3_5_eq]
    simp only [I_lt hkl, decide_true, if_true]
    cases t with
    | false =>
      simp only [Bool.false_eq_true, if_false]
      exact hfin false (tail_t f g hf hg false _ hk (fun h => by cases h)) rfl
    | true =>
      obtain ⟨h1, h2, h3, h4, h5, h6⟩ := hk.1 rfl
      have hkg : k < g.code.length := by omega
      simp only [if_true, I_nn, I_lt hkg, I_nat, and_self, decide_true, eqI, wrap_s (show k < 1000000 by omega)]
      refine ih (k + 1) _ (by omega) ⟨fun e => ?_, fun e => ?_⟩
      · refine ⟨h1, h2, h3, h4, h5, (take_next En.Dop.d3 hkl hkg).2 ⟨h6, of_decide_eq_true e⟩⟩
      · intro e'
        subst e'
        simp at e
theorem prints_law (f g : En.Dop.Fnc) (hf : Sm f → RF f) (hg : Sm g → RF g) : Tryd.m3 f g = some ((true, ()), ()) := by
  rw [Tryd.m3_eq]
  obtain ⟨r, h1, h2⟩ := small' f
  obtain ⟨q, h3, h4⟩ := small' g
  rw [h1, h3, awake]
  cases r with
  | false => rfl
  | true =>
    cases q with
    | false => rfl
    | true =>
      have hF := hf (h2 rfl)
      have hG := hg (h4 rfl)
      simp only [Option.bind, Bool.not_true, Bool.false_eq_true, if_false, decide_eq_true_eq]
      have hno : f ≠ g → Tryd.m3_5 false 0 f g = some ((true, ()), ()) := fun h => prints_loop f g hF hG f.code.length 0 false (by omega) ⟨fun e => (by cases e), fun _ => h⟩
      by_cases e1 : f.name = g.name
      case neg => rw [if_neg e1]; exact hno fun e => e1 (by rw [e])
      rw [if_pos e1]
      by_cases e2 : f.params = g.params
      case neg => rw [if_neg e2]; exact hno fun e => e2 (by rw [e])
      rw [if_pos e2]
      by_cases e3 : f.regs = g.regs
      case neg => rw [if_neg e3]; exact hno fun e => e3 (by rw [e])
      rw [if_pos e3]
      by_cases e4 : f.frame = g.frame
      case neg => rw [if_neg e4]; exact hno fun e => e4 (by rw [e])
      rw [if_pos e4]
      refine prints_loop f g hF hG f.code.length 0 _ (by omega) ⟨fun e => ⟨e1, e2, e3, e4, ?_, rfl⟩, fun e h => ?_⟩
      · have := of_decide_eq_true e
        simp only [I_eq] at this
        omega
      · rw [h] at e
        simp at e
end Go.Proofs.Law
