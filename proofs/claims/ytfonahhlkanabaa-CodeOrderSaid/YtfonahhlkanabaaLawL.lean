/-
  Layer 7, plain: what the run needs of an instruction that may be.
-/
import Derived.Test.YtfonahhlkanabaaLawK
namespace Go.Proofs.Law
open Go Go.En Go.Proofs

/-- What the run needs of an instruction. -/
structure Fine (i : En.Dop.Ins) (f : En.Dop.Fnc) : Prop where
  kind : 1 ≤ i.kind ∧ i.kind ≤ 13
  dst : i.kind ≤ 6 ∨ i.kind = 9 → 0 ≤ i.dst ∧ i.dst < f.regs
  a : i.kind = 2 ∨ i.kind = 3 ∨ i.kind = 4 ∨ i.kind = 6 ∨ i.kind = 7 ∨ i.kind = 10 ∨ i.kind = 12 ∨ i.kind = 13 → 0 ≤ i.a ∧ i.a < f.regs
  b : i.kind = 3 ∨ i.kind = 7 → 0 ≤ i.b ∧ i.b < f.regs
  n : i.kind = 5 → 0 ≤ i.n ∧ i.n ≤ f.frame
  to : i.kind = 11 ∨ i.kind = 12 → 0 ≤ i.to_ ∧ i.to_ < I f.code.length
  el : i.kind = 12 → 0 ≤ i.else_ ∧ i.else_ < I f.code.length
  call : i.kind = 8 → (0 ≤ i.dst ∧ i.dst < f.regs ∨ i.dst = -1) ∧ ∃ l : List Int, Try.m34 i = some ((l, ()), ()) ∧ l.length ≤ 6 ∧ okR f l = true
theorem both_dec {p q : Prop} [Decidable p] [Decidable q] (h : (decide p && decide q) = true) : p ∧ q := by simpa using h
theorem fine_1 (op dst a b n : Int) (text : List UInt8) (a0 a1 a2 a3 a4 a5 to_ else_ : Int) (f : En.Dop.Fnc) (h : Try.m20 ⟨1, op, dst, a, b, n, text, a0, a1, a2, a3, a4, a5, to_, else_⟩ f = some ((true, ()), ())) : Fine ⟨1, op, dst, a, b, n, text, a0, a1, a2, a3, a4, a5, to_, else_⟩ f := by
  obtain ⟨h_dst, h_w⟩ := known_1 op dst a b n text a0 a1 a2 a3 a4 a5 to_ else_ f h
  exact { kind := ⟨by simp, by simp⟩, dst := fun _ => both_dec h_dst, a := fun h => by simp at h, b := fun h => by simp at h, n := fun h => by simp at h, to := fun h => by simp at h, el := fun h => by simp at h, call := fun h => by simp at h }
theorem fine_2 (op dst a b n : Int) (text : List UInt8) (a0 a1 a2 a3 a4 a5 to_ else_ : Int) (f : En.Dop.Fnc) (h : Try.m20 ⟨2, op, dst, a, b, n, text, a0, a1, a2, a3, a4, a5, to_, else_⟩ f = some ((true, ()), ())) : Fine ⟨2, op, dst, a, b, n, text, a0, a1, a2, a3, a4, a5, to_, else_⟩ f := by
  obtain ⟨h_dst, h_a, h_o1, h_o2⟩ := known_2 op dst a b n text a0 a1 a2 a3 a4 a5 to_ else_ f h
  exact { kind := ⟨by simp, by simp⟩, dst := fun _ => both_dec h_dst, a := fun _ => both_dec h_a, b := fun h => by simp at h, n := fun h => by simp at h, to := fun h => by simp at h, el := fun h => by simp at h, call := fun h => by simp at h }
theorem fine_3 (op dst a b n : Int) (text : List UInt8) (a0 a1 a2 a3 a4 a5 to_ else_ : Int) (f : En.Dop.Fnc) (h : Try.m20 ⟨3, op, dst, a, b, n, text, a0, a1, a2, a3, a4, a5, to_, else_⟩ f = some ((true, ()), ())) : Fine ⟨3, op, dst, a, b, n, text, a0, a1, a2, a3, a4, a5, to_, else_⟩ f := by
  obtain ⟨h_dst, h_a, h_b, h_o1, h_o2⟩ := known_3 op dst a b n text a0 a1 a2 a3 a4 a5 to_ else_ f h
  exact { kind := ⟨by simp, by simp⟩, dst := fun _ => both_dec h_dst, a := fun _ => both_dec h_a, b := fun _ => both_dec h_b, n := fun h => by simp at h, to := fun h => by simp at h, el := fun h => by simp at h, call := fun h => by simp at h }
theorem fine_4 (op dst a b n : Int) (text : List UInt8) (a0 a1 a2 a3 a4 a5 to_ else_ : Int) (f : En.Dop.Fnc) (h : Try.m20 ⟨4, op, dst, a, b, n, text, a0, a1, a2, a3, a4, a5, to_, else_⟩ f = some ((true, ()), ())) : Fine ⟨4, op, dst, a, b, n, text, a0, a1, a2, a3, a4, a5, to_, else_⟩ f := by
  obtain ⟨h_dst, h_a⟩ := known_4 op dst a b n text a0 a1 a2 a3 a4 a5 to_ else_ f h
  exact { kind := ⟨by simp, by simp⟩, dst := fun _ => both_dec h_dst, a := fun _ => both_dec h_a, b := fun h => by simp at h, n := fun h => by simp at h, to := fun h => by simp at h, el := fun h => by simp at h, call := fun h => by simp at h }
theorem fine_5 (op dst a b n : Int) (text : List UInt8) (a0 a1 a2 a3 a4 a5 to_ else_ : Int) (f : En.Dop.Fnc) (h : Try.m20 ⟨5, op, dst, a, b, n, text, a0, a1, a2, a3, a4, a5, to_, else_⟩ f = some ((true, ()), ())) : Fine ⟨5, op, dst, a, b, n, text, a0, a1, a2, a3, a4, a5, to_, else_⟩ f := by
  obtain ⟨h_dst, h_n1, h_n2⟩ := known_5 op dst a b n text a0 a1 a2 a3 a4 a5 to_ else_ f h
  exact { kind := ⟨by simp, by simp⟩, dst := fun _ => both_dec h_dst, a := fun h => by simp at h, b := fun h => by simp at h, n := fun _ => ⟨of_decide_eq_true h_n1, of_decide_eq_true h_n2⟩, to := fun h => by simp at h, el := fun h => by simp at h, call := fun h => by simp at h }
theorem fine_6 (op dst a b n : Int) (text : List UInt8) (a0 a1 a2 a3 a4 a5 to_ else_ : Int) (f : En.Dop.Fnc) (h : Try.m20 ⟨6, op, dst, a, b, n, text, a0, a1, a2, a3, a4, a5, to_, else_⟩ f = some ((true, ()), ())) : Fine ⟨6, op, dst, a, b, n, text, a0, a1, a2, a3, a4, a5, to_, else_⟩ f := by
  obtain ⟨h_dst, h_a⟩ := known_6 op dst a b n text a0 a1 a2 a3 a4 a5 to_ else_ f h
  exact { kind := ⟨by simp, by simp⟩, dst := fun _ => both_dec h_dst, a := fun _ => both_dec h_a, b := fun h => by simp at h, n := fun h => by simp at h, to := fun h => by simp at h, el := fun h => by simp at h, call := fun h => by simp at h }
theorem fine_7 (op dst a b n : Int) (text : List UInt8) (a0 a1 a2 a3 a4 a5 to_ else_ : Int) (f : En.Dop.Fnc) (h : Try.m20 ⟨7, op, dst, a, b, n, text, a0, a1, a2, a3, a4, a5, to_, else_⟩ f = some ((true, ()), ())) : Fine ⟨7, op, dst, a, b, n, text, a0, a1, a2, a3, a4, a5, to_, else_⟩ f := by
  obtain ⟨h_a, h_b⟩ := known_7 op dst a b n text a0 a1 a2 a3 a4 a5 to_ else_ f h
  exact { kind := ⟨by simp, by simp⟩, dst := fun h => by simp at h, a := fun _ => both_dec h_a, b := fun _ => both_dec h_b, n := fun h => by simp at h, to := fun h => by simp at h, el := fun h => by simp at h, call := fun h => by simp at h }
theorem fine_9 (op dst a b n : Int) (text : List UInt8) (a0 a1 a2 a3 a4 a5 to_ else_ : Int) (f : En.Dop.Fnc) (h : Try.m20 ⟨9, op, dst, a, b, n, text, a0, a1, a2, a3, a4, a5, to_, else_⟩ f = some ((true, ()), ())) : Fine ⟨9, op, dst, a, b, n, text, a0, a1, a2, a3, a4, a5, to_, else_⟩ f := by
  have h_dst := known_9 op dst a b n text a0 a1 a2 a3 a4 a5 to_ else_ f h
  exact { kind := ⟨by simp, by simp⟩, dst := fun _ => both_dec h_dst, a := fun h => by simp at h, b := fun h => by simp at h, n := fun h => by simp at h, to := fun h => by simp at h, el := fun h => by simp at h, call := fun h => by simp at h }
theorem fine_10 (op dst a b n : Int) (text : List UInt8) (a0 a1 a2 a3 a4 a5 to_ else_ : Int) (f : En.Dop.Fnc) (h : Try.m20 ⟨10, op, dst, a, b, n, text, a0, a1, a2, a3, a4, a5, to_, else_⟩ f = some ((true, ()), ())) : Fine ⟨10, op, dst, a, b, n, text, a0, a1, a2, a3, a4, a5, to_, else_⟩ f := by
  have h_a := known_10 op dst a b n text a0 a1 a2 a3 a4 a5 to_ else_ f h
  exact { kind := ⟨by simp, by simp⟩, dst := fun h => by simp at h, a := fun _ => both_dec h_a, b := fun h => by simp at h, n := fun h => by simp at h, to := fun h => by simp at h, el := fun h => by simp at h, call := fun h => by simp at h }
theorem fine_11 (op dst a b n : Int) (text : List UInt8) (a0 a1 a2 a3 a4 a5 to_ else_ : Int) (f : En.Dop.Fnc) (h : Try.m20 ⟨11, op, dst, a, b, n, text, a0, a1, a2, a3, a4, a5, to_, else_⟩ f = some ((true, ()), ())) : Fine ⟨11, op, dst, a, b, n, text, a0, a1, a2, a3, a4, a5, to_, else_⟩ f := by
  have h_to := known_11 op dst a b n text a0 a1 a2 a3 a4 a5 to_ else_ f h
  exact { kind := ⟨by simp, by simp⟩, dst := fun h => by simp at h, a := fun h => by simp at h, b := fun h => by simp at h, n := fun h => by simp at h, to := fun _ => both_dec h_to, el := fun h => by simp at h, call := fun h => by simp at h }
theorem fine_12 (op dst a b n : Int) (text : List UInt8) (a0 a1 a2 a3 a4 a5 to_ else_ : Int) (f : En.Dop.Fnc) (h : Try.m20 ⟨12, op, dst, a, b, n, text, a0, a1, a2, a3, a4, a5, to_, else_⟩ f = some ((true, ()), ())) : Fine ⟨12, op, dst, a, b, n, text, a0, a1, a2, a3, a4, a5, to_, else_⟩ f := by
  obtain ⟨h_a, h_to, h_el⟩ := known_12 op dst a b n text a0 a1 a2 a3 a4 a5 to_ else_ f h
  exact { kind := ⟨by simp, by simp⟩, dst := fun h => by simp at h, a := fun _ => both_dec h_a, b := fun h => by simp at h, n := fun h => by simp at h, to := fun _ => both_dec h_to, el := fun _ => both_dec h_el, call := fun h => by simp at h }
theorem fine_13 (op dst a b n : Int) (text : List UInt8) (a0 a1 a2 a3 a4 a5 to_ else_ : Int) (f : En.Dop.Fnc) (h : Try.m20 ⟨13, op, dst, a, b, n, text, a0, a1, a2, a3, a4, a5, to_, else_⟩ f = some ((true, ()), ())) : Fine ⟨13, op, dst, a, b, n, text, a0, a1, a2, a3, a4, a5, to_, else_⟩ f := by
  have h_a := known_13 op dst a b n text a0 a1 a2 a3 a4 a5 to_ else_ f h
  exact { kind := ⟨by simp, by simp⟩, dst := fun h => by simp at h, a := fun _ => both_dec h_a, b := fun h => by simp at h, n := fun h => by simp at h, to := fun h => by simp at h, el := fun h => by simp at h, call := fun h => by simp at h }
end Go.Proofs.Law
