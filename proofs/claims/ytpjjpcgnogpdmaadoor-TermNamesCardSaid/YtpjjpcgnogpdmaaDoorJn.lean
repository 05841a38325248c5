/-
  The law 'TermNames' returns true, whatever its arguments are, and leaves them as they were; the tied card. (Printed by gen_join.py.)
-/
import Derived.Test.YtpjjpcgnogpdmaaDoorJl
import Derived.Test.YtpjjpcgnogpdmaaDoorCards
import Derived.Test.YtpjjpcgnogpdmaaDoorTie
import Derived.SevenTiedAt
namespace Go.Proofs.YtpjjpcgnogpdmaaDoor
open Go.ChangeShapes Go.WideShapes Go.ChangeAt Go.RowKit Go.En

theorem ty17 : asB En.Dop.D17 Tryd.prog 30 [.fd .str, .fd .str, .fd (.int .i64)] Tryd.f4.params.toList = true := by kernel_rfl
theorem rd17 : (Tryd.f4.params.toList.all fun t => Tryd.prog.readableRec t && decide (t < Tryd.prog.types.size)) = true := by kernel_rfl

set_option maxRecDepth 100000 in
theorem termNames_lifted (os : Os) (started : os.Started) (H : Type) (enc : TypeId × Value → H) :
    ReturnsInHanded {} Tryd.checked os 4 .any (fun w args => (Rows.termNamesSpec.pre enc Tryd.prog Tryd.f4 [] false w args ∧ laidMetH Tryd.prog laidL w) ∧ sizedMet enc Tryd.prog Tryd.f4 (OpenSpec.ofChange Rows.termNamesSpec) false w args)
      (Rows.termNamesSpec.post enc Tryd.prog Tryd.f4 false true false false) := by
  refine returnsInHanded_of_change_and (C := Tryd.checked) (X := fun w _ => laidMetH Tryd.prog laidL w) (fun _ _ _ hh h => h.of_heap hh) own17 started (by kernel_rfl) Tryd.func4
    (wit17 (enc := enc) (os := os) #[.string .empty, .string .empty, .int .i64 0] (by kernel_rfl) (by kernel_rfl) (by kernel_rfl) (by kernel_rfl) (by kernel_rfl)) ?_
  intro W base args ds gs before hval hW _ hz hL _
  exact law_contract (P := Tryd.prog) (S := En.Dop.D17) (N := 30) (t := 4) Tryd.m4.holds (fun x hx => Law.Sy.TermNames_ok x.1 x.2.1 x.2.2.1) laidOut17 ty17 rd17 (by kernel_rfl) (by kernel_rfl) rfl
    (fun ds h => match ds, h with | [_, _, _], _ => rfl) hval hW hz (inv17 hL)

theorem termNames_row : Rows.TermNamesSaid :=
  OpenClaim.holds_of_wide 4 Tryd.f4 rfl rfl rfl rfl rfl rfl rfl ⟨rfl, rfl, rfl, rfl, rfl⟩ rfl rfl rfl rfl rfl (by kernel_rfl) Tryd.func4 (by kernel_rfl)
    (of_decide_eq_true (by kernel_rfl)) (by unfold Func.isWrapper; first | (rw [if_pos (by decide +kernel)]; kernel_rfl) | (rw [if_neg (by decide +kernel)]; exact ⟨rfl, rfl⟩))
    (fun os started H enc _ => termNames_lifted os started H enc)

theorem termNames_holds : Rows.TermNamesCardSaid :=
  Claim7.holds_tied_plain_at .later [] [.data, .data, .data, .data, .listed, .data, .pinned, .pinned, .pinned, .pinned, .pinned, .pinned] true (true, "b944218cae553cc84dd69b2a7b9e06dd3b82b82f3d0ddcff2bd56816af9f63b9") false
    termNames_row (fun _ h => by cases h) (by kernel_rfl) (fun _ h => by cases h) termNames_row_tie rfl ⟨rfl, rfl⟩ (by kernel_rfl) rfl
    (fun f fn hf hfn => by
      obtain rfl : f = 4 := Option.some.inj ((show Tryd.prog.funcNamed "doppel/doppellaw17.TermNames" = some 4 by kernel_rfl).symm.trans hf) |>.symm
      obtain rfl : fn = Tryd.f4 := (Option.some.inj (Tryd.func4.symm.trans hfn)).symm
      exact ⟨by kernel_rfl, fun j t ht => by
        have hm : t ∈ Tryd.f4.params.toList := by simpa using Array.mem_of_getElem? ht
        have hall : (Tryd.f4.params.toList.all fun u => !Tryd.prog.wantsStandIn u) = true := by kernel_rfl
        exact (show Tryd.prog.wantsStandIn t = false by simpa using List.all_eq_true.1 hall t hm)⟩)
    (by kernel_rfl)
end Go.Proofs.YtpjjpcgnogpdmaaDoor
