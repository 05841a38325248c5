/-
 Functions that call one another: models by fuel, contracts at whatever fuel.
-/
import Derived.Test.YtkpokomghbhadaaGreatDoorEn14
namespace Go.En
open Go.RowKit
def FU : Nat := 1000000000
section
variable {S : Sig} {P : Program}
theorem hct_app {l m : List (Ctr S)} (h : ∀ c ∈ l,c.Holds P) (k : ∀ c ∈ m,c.Holds P) : ∀ c ∈ l ++ m,c.Holds P := fun c hc => (List.mem_append.1 hc).elim (h c) (k c)
theorem ctr_none {f : Nat} {tb : List (Nat × TI)} {p : Pln} (htb : TabOk S P tb) (h : plnOk S P f p = true) : Ctr.Holds (S := S) P ⟨f,p.bn,p.sp,p.rs,p.flat,.opt fun _ => none⟩ := by
 obtain ⟨h1,h2,h3,_⟩ := fun_ctr (P := P) (S := S) (f := f) (p := p) 0 htb hct_nil h
 exact ⟨h1,h2,h3,fun x y hxy => by cases hxy⟩
end
def Le {α : Type} (a b : Option α) : Prop := ∀ y,a = some y → b = some y
section
variable {α β : Type}
theorem le_refl {a : Option α} : Le a a := fun _ h => h
end
end Go.En
