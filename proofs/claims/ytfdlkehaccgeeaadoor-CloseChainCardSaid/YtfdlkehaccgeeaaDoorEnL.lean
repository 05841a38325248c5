/-
  Contracts of functions that have no body of the program's own to be gone through here (the library's): out of what their calls come to.
-/
import Derived.Test.YtfdlkehaccgeeaaDoorEn14
namespace Go.En
open Go.RowKit

section
variable {S : Sig} {P : Program}

/-- A CONTRACT OUT OF CALLS, where nothing but plain values come in and go out. -/
theorem lib_ctr {f : Nat} {sp rs : Spec} {out : Out (sp.D S) (rs.D S)} (hb : bodied P f = true) (hok : sp.okB 0 = true) (hpl : rs.plain S = true)
    {A : sp.D S → Array Value} (hA : ∀ x, ∃ vs, sp.enc x 0 = (vs, [], 0) ∧ ∀ β, (denL β vs).toArray = A x)
    {B : rs.D S → Value} (hB : ∀ y, ∃ rs', rs.enc y 0 = (rs', [], 0) ∧ (∀ β, (resSV rs').den β = B y) ∧ onL (· < 0) rs')
    (hc : ∀ x y, out.gives x y → ∀ w D, S.inv D w → Calls P f (A x) w fun e w' => e = .returned (B y) ∧ Below w.heap.size w w') :
    Ctr.Holds P ⟨f, 0, sp, rs, true, out⟩ := by
  refine ⟨hb, hok, fun _ => hpl, fun x y hxy w D β vs o n he hg hon hn hiv => ?_⟩
  obtain ⟨vs', h1, h2⟩ := hA x
  rw [h1] at he
  simp only [Prod.mk.injEq] at he
  obtain ⟨rfl, rfl, rfl⟩ := he
  rw [h2]
  refine (hc x y hxy w D hiv).mono fun e w' ⟨h3, h4⟩ => ?_
  obtain ⟨rs', h5, h6, h7⟩ := hB y
  exact ⟨D, β, rs', [], 0, h5, by rw [h3, h6], fun _ _ => rfl, hg.step h4, h7, Nat.le_refl _⟩

/-! The shapes that the library's functions have. -/
def sSI (S : Sig) : Spec := ⟨[.fd .str, .fd .str], []⟩
variable {f : Nat} (hb : bodied P f = true)
include hb
theorem lib_ss_b {g : List UInt8 → List UInt8 → Bool} {p : List UInt8 → List UInt8 → Bool} (hc : ∀ a b w D, p a b = true → S.inv D w → Calls P f #[.string ⟨⟨a⟩⟩, .string ⟨⟨b⟩⟩] w fun e w' => e = .returned (.bool (g a b)) ∧ Below w.heap.size w w') :
    Ctr.Holds (S := S) P ⟨f, 0, ⟨[.fd .str, .fd .str], []⟩, ⟨[.fd .bool], []⟩, true, .pre (fun x => p x.1.1 x.1.2.1) fun x => ((g x.1.1 x.1.2.1, ()), ())⟩ :=
  lib_ctr hb rfl rfl (A := fun x => #[.string ⟨⟨x.1.1⟩⟩, .string ⟨⟨x.1.2.1⟩⟩]) (fun _ => ⟨_, rfl, fun _ => rfl⟩) (B := fun y => .bool y.1.1) (fun _ => ⟨_, rfl, fun _ => rfl, trivial, trivial⟩)
    (fun x y h w D hiv => by obtain ⟨h1, rfl⟩ := h; exact hc _ _ w D h1 hiv)
theorem lib_ss_i {g : List UInt8 → List UInt8 → Int} {p : List UInt8 → List UInt8 → Bool} (hc : ∀ a b w D, p a b = true → S.inv D w → Calls P f #[.string ⟨⟨a⟩⟩, .string ⟨⟨b⟩⟩] w fun e w' => e = .returned (.int .i64 (g a b)) ∧ Below w.heap.size w w') :
    Ctr.Holds (S := S) P ⟨f, 0, ⟨[.fd .str, .fd .str], []⟩, ⟨[.fd (.int .i64)], []⟩, true, .pre (fun x => p x.1.1 x.1.2.1) fun x => ((g x.1.1 x.1.2.1, ()), ())⟩ :=
  lib_ctr hb rfl rfl (A := fun x => #[.string ⟨⟨x.1.1⟩⟩, .string ⟨⟨x.1.2.1⟩⟩]) (fun _ => ⟨_, rfl, fun _ => rfl⟩) (B := fun y => .int .i64 y.1.1) (fun _ => ⟨_, rfl, fun _ => rfl, trivial, trivial⟩)
    (fun x y h w D hiv => by obtain ⟨h1, rfl⟩ := h; exact hc _ _ w D h1 hiv)
theorem lib_sc_i {g : List UInt8 → Int → Int} {p : List UInt8 → Int → Bool} (hc : ∀ a b w D, p a b = true → S.inv D w → Calls P f #[.string ⟨⟨a⟩⟩, .int .u8 b] w fun e w' => e = .returned (.int .i64 (g a b)) ∧ Below w.heap.size w w') :
    Ctr.Holds (S := S) P ⟨f, 0, ⟨[.fd .str, .fd (.int .u8)], []⟩, ⟨[.fd (.int .i64)], []⟩, true, .pre (fun x => p x.1.1 x.1.2.1) fun x => ((g x.1.1 x.1.2.1, ()), ())⟩ :=
  lib_ctr hb rfl rfl (A := fun x => #[.string ⟨⟨x.1.1⟩⟩, .int .u8 x.1.2.1]) (fun _ => ⟨_, rfl, fun _ => rfl⟩) (B := fun y => .int .i64 y.1.1) (fun _ => ⟨_, rfl, fun _ => rfl, trivial, trivial⟩)
    (fun x y h w D hiv => by obtain ⟨h1, rfl⟩ := h; exact hc _ _ w D h1 hiv)
theorem lib_s_s {g : List UInt8 → List UInt8} {p : List UInt8 → Bool} (hc : ∀ a w D, p a = true → S.inv D w → Calls P f #[.string ⟨⟨a⟩⟩] w fun e w' => e = .returned (.string ⟨⟨g a⟩⟩) ∧ Below w.heap.size w w') :
    Ctr.Holds (S := S) P ⟨f, 0, ⟨[.fd .str], []⟩, ⟨[.fd .str], []⟩, true, .pre (fun x => p x.1.1) fun x => ((g x.1.1, ()), ())⟩ :=
  lib_ctr hb rfl rfl (A := fun x => #[.string ⟨⟨x.1.1⟩⟩]) (fun _ => ⟨_, rfl, fun _ => rfl⟩) (B := fun y => .string ⟨⟨y.1.1⟩⟩) (fun _ => ⟨_, rfl, fun _ => rfl, trivial, trivial⟩)
    (fun x y h w D hiv => by obtain ⟨h1, rfl⟩ := h; exact hc _ w D h1 hiv)
theorem lib_i_s {g : Int → List UInt8} {p : Int → Bool} (hc : ∀ a w D, p a = true → S.inv D w → Calls P f #[.int .i64 a] w fun e w' => e = .returned (.string ⟨⟨g a⟩⟩) ∧ Below w.heap.size w w') :
    Ctr.Holds (S := S) P ⟨f, 0, ⟨[.fd (.int .i64)], []⟩, ⟨[.fd .str], []⟩, true, .pre (fun x => p x.1.1) fun x => ((g x.1.1, ()), ())⟩ :=
  lib_ctr hb rfl rfl (A := fun x => #[.int .i64 x.1.1]) (fun _ => ⟨_, rfl, fun _ => rfl⟩) (B := fun y => .string ⟨⟨y.1.1⟩⟩) (fun _ => ⟨_, rfl, fun _ => rfl, trivial, trivial⟩)
    (fun x y h w D hiv => by obtain ⟨h1, rfl⟩ := h; exact hc _ w D h1 hiv)
end
end Go.En
