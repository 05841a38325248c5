/-
  The law 'CodeRights' returns true, whatever its arguments are, and leaves them as they were; no condition.
-/
import Derived.Test.YtfonahhlkanabaaRows
import Derived.Test.YtfonahhlkanabaaLawF
import Derived.Test.YtfonahhlkanabaaEnP
namespace Go.Proofs.Ytfonahhlkanabaa
open Go.ChangeShapes Go.WideShapes Go.ChangeAt Go.RowKit Go.En

theorem own7 : ownKnob Try.prog.godebug = none := by kernel_rfl
theorem laidOut7 : laidOutB Try.prog = true := by kernel_rfl
theorem ty3 : asB En.Dop.D7 Try.prog 30 [.st 6, .fd .str] Try.f3.params.toList = true := by kernel_rfl
theorem rd3 : (Try.f3.params.toList.all fun t => Try.prog.readableRec t && decide (t < Try.prog.types.size)) = true := by kernel_rfl

set_option maxRecDepth 100000 in
theorem rights_lifted (os : Os) (started : os.Started) (H : Type) (enc : TypeId × Value → H) :
    ReturnsInHanded {} Try.checked os 3 .any (Rows.codeRightsSpec.pre6 enc Try.prog Try.f3 Rows.codeRightsRow.domain false) (Rows.codeRightsSpec.post enc Try.prog Try.f3 false true false false) := by
  refine returnsInHanded_of_change (C := Try.checked) own7 started (by kernel_rfl) Try.func3
    (ChangeSpec.witness6 (enc := enc) (C := Try.checked) false ⟨#[], #[.agg #[.slice none 0 0, .slice none 0 0, .int .i64 0], .string ⟨#[]⟩], []⟩ 8 (by kernel_rfl) (by kernel_rfl) (by kernel_rfl) (by kernel_rfl)) ?_
  intro W base args ds gs before hval hW _ _
  exact law_contract (P := Try.prog) (S := En.Dop.D7) (N := 30) (t := 4) Try.m3.holds (fun x _ => Law.rights x.1 x.2.1) laidOut7 ty3 rd3 (by kernel_rfl) (by kernel_rfl) rfl
    (fun ds h => match ds, h with | [_, _], _ => rfl) hval hW

theorem rights_holds : Rows.CodeRightsSaid :=
  OpenClaim.holds_of_wide 3 Try.f3 rfl rfl rfl rfl rfl rfl rfl ⟨rfl, rfl, rfl, rfl, rfl⟩ rfl rfl rfl rfl rfl (by kernel_rfl) Try.func3 (by kernel_rfl)
    (of_decide_eq_true (by kernel_rfl)) (by unfold Func.isWrapper; first | (rw [if_pos (by decide +kernel)]; kernel_rfl) | (rw [if_neg (by decide +kernel)]; exact ⟨rfl, rfl⟩))
    (fun os started H enc _ => rights_lifted os started H enc)
end Go.Proofs.Ytfonahhlkanabaa
