/-
  The law 'CodeInput' returns true, whatever its arguments are, and leaves them as they were; no condition.
-/
import Derived.Test.YtfonahhlkanabaaRows
import Derived.Test.YtfonahhlkanabaaLawS
import Derived.Test.YtfonahhlkanabaaEnP
namespace Go.Proofs.Ytfonahhlkanabaa
open Go.ChangeShapes Go.WideShapes Go.ChangeAt Go.RowKit Go.En

theorem own7 : ownKnob Try.prog.godebug = none := by kernel_rfl
theorem laidOut7 : laidOutB Try.prog = true := by kernel_rfl
theorem ty7 : asB En.Dop.D7 Try.prog 30 [.st 6, .fd (.sl 2), .fd (.int .i64)] Try.f6.params.toList = true := by kernel_rfl
theorem rd7 : (Try.f6.params.toList.all fun t => Try.prog.readableRec t && decide (t < Try.prog.types.size)) = true := by kernel_rfl
theorem bytes7 {l : List Int} (h : Rng En.Dop.D7 (.sl 2 l)) : ∀ x ∈ l, 0 ≤ x ∧ x ≤ 255 := by
  intro x hx
  cases h with
  | sl σ l h1 h2 =>
    have h3 := h2 x hx (.int .u8 x) (List.mem_cons_self)
    cases h3 with
    | int k n h4 =>
      simpa [Lit.wf, IntKind.min, IntKind.max, IntKind.signed, IntKind.bits] using h4

set_option maxRecDepth 100000 in
theorem codeInput_lifted (os : Os) (started : os.Started) (H : Type) (enc : TypeId × Value → H) :
    ReturnsInHanded {} Try.checked os 6 .any (Rows.codeInputSpec.pre6 enc Try.prog Try.f6 Rows.codeInputRow.domain false) (Rows.codeInputSpec.post enc Try.prog Try.f6 false true false false) := by
  refine returnsInHanded_of_change (C := Try.checked) own7 started (by kernel_rfl) Try.func6
    (ChangeSpec.witness6 (enc := enc) (C := Try.checked) false ⟨#[], #[.agg #[.slice none 0 0, .slice none 0 0, .int .i64 0], .slice none 0 0, .int .i64 0], []⟩ 8 (by kernel_rfl) (by kernel_rfl) (by kernel_rfl) (by kernel_rfl)) ?_
  intro W base args ds gs before hval hW _ _
  exact law_contract (P := Try.prog) (S := En.Dop.D7) (N := 30) (t := 4) Try.m6.holds (fun x hx => Law.input_law x.1 x.2.1 x.2.2.1 (bytes7 hx.2.1)) laidOut7 ty7 rd7 (by kernel_rfl) (by kernel_rfl) rfl
    (fun ds h => match ds, h with | [_, _, _], _ => rfl) hval hW

theorem codeInput_holds : Rows.CodeInputSaid :=
  OpenClaim.holds_of_wide 6 Try.f6 rfl rfl rfl rfl rfl rfl rfl ⟨rfl, rfl, rfl, rfl, rfl⟩ rfl rfl rfl rfl rfl (by kernel_rfl) Try.func6 (by kernel_rfl)
    (of_decide_eq_true (by kernel_rfl)) (by unfold Func.isWrapper; first | (rw [if_pos (by decide +kernel)]; kernel_rfl) | (rw [if_neg (by decide +kernel)]; exact ⟨rfl, rfl⟩))
    (fun os started H enc _ => codeInput_lifted os started H enc)
end Go.Proofs.Ytfonahhlkanabaa
