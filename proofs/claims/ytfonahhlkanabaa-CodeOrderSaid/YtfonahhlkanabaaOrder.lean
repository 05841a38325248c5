/-
  The law 'CodeOrder' returns true, whatever its arguments are, and leaves them as they were; no condition.
-/
import Derived.Test.YtfonahhlkanabaaRows
import Derived.Test.YtfonahhlkanabaaLawV
import Derived.Test.YtfonahhlkanabaaEnP
import Derived.SizedLaws
namespace Go.Proofs.Ytfonahhlkanabaa
open Go.ChangeShapes Go.WideShapes Go.ChangeAt Go.RowKit Go.En

theorem own7 : ownKnob Try.prog.godebug = none := by kernel_rfl
theorem laidOut7 : laidOutB Try.prog = true := by kernel_rfl
theorem ty7 : asB En.Dop.D7 Try.prog 30 [.st 6, .fd (.int .u8), .fd (.sl 2), .fd (.int .i64)] Try.f5.params.toList = true := by kernel_rfl
theorem rd7 : (Try.f5.params.toList.all fun t => Try.prog.readableRec t && decide (t < Try.prog.types.size)) = true := by kernel_rfl
theorem bytes7 {l : List Int} (h : Rng En.Dop.D7 (.sl 2 l)) : ∀ x ∈ l, 0 ≤ x ∧ x ≤ 255 := by
  intro x hx
  cases h with
  | sl σ l h1 h2 =>
    have h3 := h2 x hx (.int .u8 x) (List.mem_cons_self)
    cases h3 with
    | int k n h4 =>
      simpa [Lit.wf, IntKind.min, IntKind.max, IntKind.signed, IntKind.bits] using h4
theorem byte7 {a : Int} (h : Rng En.Dop.D7 (.int .u8 a)) : 0 ≤ a ∧ a ≤ 255 := by
  cases h with
  | int k n h7 => simpa [Lit.wf, IntKind.min, IntKind.max, IntKind.signed, IntKind.bits] using h7
theorem names7 {u : En.Dop.Unt} (h : ∀ f ∈ En.Dop.D7.enc 6 u, Rng En.Dop.D7 f) : ∀ g ∈ u.globals, g.name.length ≤ reachBytes := by
  intro g hg
  have h1 := h (.sl 5 u.globals) (List.mem_cons_of_mem _ List.mem_cons_self)
  cases h1 with
  | sl σ l h1 h2 =>
    have h3 := h2 g hg (.str g.name) List.mem_cons_self
    cases h3 with
    | str s h4 => exact h4

set_option maxRecDepth 100000 in
theorem codeOrder_lifted (os : Os) (started : os.Started) (H : Type) (enc : TypeId × Value → H) :
    ReturnsInHanded {} Try.checked os 5 .any (Rows.codeOrderSpec.pre6 enc Try.prog Try.f5 Rows.codeOrderRow.domain false) (Rows.codeOrderSpec.post enc Try.prog Try.f5 false true false false) := by
  refine returnsInHanded_of_change_sized (C := Try.checked) own7 started (by kernel_rfl) Try.func5
    (ChangeSpec.witness6 (enc := enc) (C := Try.checked) false ⟨#[], #[.agg #[.slice none 0 0, .slice none 0 0, .int .i64 0], .int .u8 0, .slice none 0 0, .int .i64 0], []⟩ 8 (by kernel_rfl) (by kernel_rfl) (by kernel_rfl) (by kernel_rfl)) ?_
  intro W base args ds gs before hval hW _ hz _
  exact law_contract (P := Try.prog) (S := En.Dop.D7) (N := 30) (t := 4) Try.m5.holds (fun x hx => by
    have h1 := byte7 hx.2.1
    have := Law.order_law x.1 x.2.1.toNat x.2.2.1 x.2.2.2.1 (by omega) (bytes7 hx.2.2.1) (names7 hx.1)
    rwa [show I x.2.1.toNat = x.2.1 by rw [Law.I_eq]; omega] at this) laidOut7 ty7 rd7 (by kernel_rfl) (by kernel_rfl) rfl
    (fun ds h => match ds, h with | [_, _, _, _], _ => rfl) hval hW hz trivial

theorem codeOrder_holds : Rows.CodeOrderSaid :=
  OpenClaim.holds_of_wide 5 Try.f5 rfl rfl rfl rfl rfl rfl rfl ⟨rfl, rfl, rfl, rfl, rfl⟩ rfl rfl rfl rfl rfl (by kernel_rfl) Try.func5 (by kernel_rfl)
    (of_decide_eq_true (by kernel_rfl)) (by unfold Func.isWrapper; first | (rw [if_pos (by decide +kernel)]; kernel_rfl) | (rw [if_neg (by decide +kernel)]; exact ⟨rfl, rfl⟩))
    (fun os started H enc _ => codeOrder_lifted os started H enc)
end Go.Proofs.Ytfonahhlkanabaa
