/-
  Functions that call one another: models by fuel, contracts at whatever fuel.
-/
import Derived.Test.YtpjjpcgnogpdmaaDoorEn14
namespace Go.En
open Go.RowKit

/-- Fuel enough. -/
def FU : Nat := 1000000000
section
variable {S : Sig} {P : Program}
theorem hct_app {l m : List (Ctr S)} (h : ∀ c ∈ l, c.Holds P) (k : ∀ c ∈ m, c.Holds P) : ∀ c ∈ l ++ m, c.Holds P := fun c hc => (List.mem_append.1 hc).elim (h c) (k c)
/-- Without fuel nothing is told. -/
theorem ctr_none {f : Nat} {tb : List (Nat × TI)} {p : Pln} (htb : TabOk S P tb) (h : plnOk S P f p = true) : Ctr.Holds (S := S) P ⟨f, p.bn, p.sp, p.rs, p.flat, .opt fun _ => none⟩ := by
  obtain ⟨h1, h2, h3, _⟩ := fun_ctr (P := P) (S := S) (f := f) (p := p) 0 htb hct_nil h
  exact ⟨h1, h2, h3, fun x y hxy => by cases hxy⟩
end

/-! Functions that the kernel can run beside models. -/
/-- What the one tells the other one tells. -/
def Le {α : Type} (a b : Option α) : Prop := ∀ y, a = some y → b = some y
section
variable {α β : Type}
theorem le_refl {a : Option α} : Le a a := fun _ h => h
theorem le_none {b : Option α} : Le none b := fun _ h => by cases h
theorem le_eq {a b b' : Option α} (e : b = b') (h : Le a b') : Le a b := fun y hy => e.trans (h y hy)
theorem le_ite {c : Prop} [Decidable c] {a a' b b' : Option α} (h : Le a a') (k : Le b b') : Le (if c then a else b) (if c then a' else b') := fun y hy => by
  by_cases hc : c
  · rw [if_pos hc] at hy ⊢; exact h y hy
  · rw [if_neg hc] at hy ⊢; exact k y hy
theorem le_bind {m m' : Option β} {f f' : β → Option α} (h : Le m m') (k : ∀ x, Le (f x) (f' x)) : Le (m.bind f) (m'.bind f') := fun y hy => by
  obtain ⟨x, h1, h2⟩ := Option.bind_eq_some_iff.1 hy
  rw [h x h1]; exact k x y h2
end
end Go.En
