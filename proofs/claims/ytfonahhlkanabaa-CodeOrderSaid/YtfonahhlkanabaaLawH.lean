/-
  Layer 7, plain: what a call comes to.
-/
import Derived.Test.YtfonahhlkanabaaLawG
set_option maxRecDepth 20000
set_option maxHeartbeats 400000
namespace Go.Proofs.Law
open Go Go.En Go.Proofs

set_option linter.unusedSimpArgs false in
theorem room_s (bs n : Nat) (h : n * (bs + 1) ≤ 140737488355328) : room bs n = true := by simp only [room, decide_eq_true_eq]; exact h
/-- A call's arguments. -/
def vals (fr : En.Dop.Frm) (l : List Int) : List Int := l.map fun x => fr.regs.getD x.toNat 0
set_option linter.unusedSimpArgs false in
theorem args_loop (by_ : List (List UInt8 × En.Dop.Fnc)) (mem : List Int) (sp : Int) (inp : List Int) (pre : List En.Dop.Frm) (fr : En.Dop.Frm) (ov : Bool) (e c : Int) (out : List Int) (i : En.Dop.Ins)
    (l : List Int) (hl : l.length ≤ 6) (hok : ∀ x ∈ l, 0 ≤ x ∧ x < I fr.regs.length) : ∀ (n k : Nat) (t4 : List Int), k + n = l.length → t4.length ≤ k →
    Try.m27_11 pre.length t4 l (I l.length) (I k) by_ mem sp inp ov e c out (pre ++ [fr]) i = Try.m27_11 pre.length (t4 ++ vals fr (l.drop k)) l (I l.length) (I l.length) by_ mem sp inp ov e c out (pre ++ [fr]) i
  | 0, k, t4, h, _ => by
    have e : k = l.length := by omega
    subst e
    rw [List.drop_eq_nil_of_le (Nat.le_refl _)]
    simp only [vals, List.map_nil, List.append_nil]
  | n + 1, k, t4, h, ht => by
    have hk : k < l.length := by omega
    have ih := args_loop by_ mem sp inp pre fr ov e c out i l hl hok n (k + 1) (t4 ++ [fr.regs.getD (l.getD k 0).toNat 0]) (by omega) (by simp only [List.length_append, List.length_cons, List.length_nil]; omega)
    have hx : l.getD k 0 ∈ l := by simp [List.getD, hk]
    obtain ⟨h1, h2⟩ := hok _ hx
    have h3 : (l.getD k 0).toNat < fr.regs.length := by simp only [I_eq] at h2; omega
    have h4 : room 8 (t4.length + [fr.regs.getD (l.getD k 0).toNat 0].length) = true := room_s _ _ (by simp only [List.length_cons, List.length_nil]; omega)
    rw [Try.m27_11_eq]
    simp only [I_lt hk, I_nn, I_nat, I_s, I_in hk (show l.length < 1000000 by omega), hk, top_lt, top_get, h1, h2, h3, h4, andC_none, and_self, decide_true, Bool.and_self, if_true, ih]
    rw [drop_get (0 : Int) hk]
    simp only [vals, List.map_cons, List.append_assoc, List.cons_append, List.nil_append]
/-- The function that is called. -/
def callee (by_ : List (List UInt8 × En.Dop.Fnc)) (i : En.Dop.Ins) : En.Dop.Fnc := (mlookS by_ i.text).getD Dop.d4
def regs0 (g : En.Dop.Fnc) (l : List Int) : List Int := List.take (List.replicate g.regs.toNat (0 : Int)).length l ++ List.drop l.length (List.replicate g.regs.toNat (0 : Int))
set_option linter.unusedSimpArgs false in
theorem call_full (by_ : List (List UInt8 × En.Dop.Fnc)) (mem : List Int) (sp : Int) (inp : List Int) (pre : List En.Dop.Frm) (fr : En.Dop.Frm) (ov : Bool) (e c : Int) (out : List Int) (i : En.Dop.Ins)
    (l t4 : List Int) (hin : inR (sp + (callee by_ i).frame) = true) (hf : I mem.length < sp + (callee by_ i).frame) :
    Try.m27_11 pre.length t4 l (I l.length) (I l.length) by_ mem sp inp ov e c out (pre ++ [fr]) i = some ((), ((by_, (mem, (sp, (inp, (pre ++ [fr], (true, (3, (0, (out, ()))))))))), ())) := by
  unfold callee at hin hf
  rw [Try.m27_11_eq]
  simp only [I_nlt, hin, hf, decide_true, decide_false, Bool.false_eq_true, if_true, if_false]
  try rfl
set_option linter.unusedSimpArgs false in
theorem call_push (by_ : List (List UInt8 × En.Dop.Fnc)) (mem : List Int) (sp : Int) (inp : List Int) (pre : List En.Dop.Frm) (fr : En.Dop.Frm) (ov : Bool) (e c : Int) (out : List Int) (i : En.Dop.Ins)
    (l t4 : List Int) (hin : inR (sp + (callee by_ i).frame) = true) (hf : ¬ I mem.length < sp + (callee by_ i).frame) (hr : 0 ≤ (callee by_ i).regs ∧ (callee by_ i).regs ≤ 4096) (hp : pre.length < 10000000) :
    Try.m27_11 pre.length t4 l (I l.length) (I l.length) by_ mem sp inp ov e c out (pre ++ [fr]) i = some ((), ((by_, (mem, (sp + (callee by_ i).frame, (inp, (pre ++ [fr] ++ [⟨callee by_ i, regs0 (callee by_ i) t4, sp, 0, i.dst⟩], (ov, (e, (c, (out, ()))))))))), ())) := by
  unfold callee at hin hf hr
  unfold regs0 callee
  have h1 : 0 ≤ ((mlookS by_ i.text).getD Dop.d4).regs ∧ ((mlookS by_ i.text).getD Dop.d4).regs ≤ ((mlookS by_ i.text).getD Dop.d4).regs ∧ ((mlookS by_ i.text).getD Dop.d4).regs * (I 8 + 1) ≤ 140737488355328 := by
    simp only [I_eq]; omega
  have h2 : ∀ x : En.Dop.Frm, room 112 ((pre ++ [fr]).length + [x].length) = true := fun x => room_s _ _ (by simp only [List.length_append, List.length_cons, List.length_nil]; omega)
  rw [Try.m27_11_eq]
  simp only [I_nlt, hin, hf, h1, h2, and_self, decide_true, decide_false, Bool.false_eq_true, if_true, if_false]
  try rfl
end Go.Proofs.Law
