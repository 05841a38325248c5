/-
  The law 'LexNumbers' returns true, whatever its arguments are, and leaves them as they were; the tied card. (Printed by gen_join.py.)
-/
import Derived.Test.YtcifaokahhbflaaDoorLj
import Derived.Test.YtcifaokahhbflaaDoorNumB
import Derived.Test.YtcifaokahhbflaaDoorCards
import Derived.Test.YtcifaokahhbflaaDoorTie
import Derived.SevenTiedAt
namespace Go.Proofs.YtcifaokahhbflaaDoor
open Go.ChangeShapes Go.WideShapes Go.ChangeAt Go.RowKit Go.En

theorem ty02 : asB En.Dop.D2 Tryd.prog 30 [.fd (.int .u32)] Tryd.f9.params.toList = true := by kernel_rfl
theorem rd02 : (Tryd.f9.params.toList.all fun t => Tryd.prog.readableRec t && decide (t < Tryd.prog.types.size)) = true := by kernel_rfl

set_option maxRecDepth 100000 in
theorem lexNumbers_lifted (os : Os) (started : os.Started) (H : Type) (enc : TypeId × Value → H) :
    ReturnsInHanded {} Tryd.checked os 9 .any (fun w args => (Rows.lexNumbersSpec.pre enc Tryd.prog Tryd.f9 [] false w args ∧ laidMetH Tryd.prog laidL w) ∧ sizedMet enc Tryd.prog Tryd.f9 (OpenSpec.ofChange Rows.lexNumbersSpec) false w args)
      (Rows.lexNumbersSpec.post enc Tryd.prog Tryd.f9 false true false false) := by
  refine returns_and_shaped (C := Tryd.checked) (X := fun w _ => laidMetH Tryd.prog laidL w) (fun _ _ _ hh h => h.of_heap hh) own02 started (by kernel_rfl) Tryd.func9
    (wit02 (enc := enc) (os := os) #[.int .u32 0] (by kernel_rfl) (by kernel_rfl) (by kernel_rfl) (by kernel_rfl) (by kernel_rfl)) ?_
  intro W base args ds gs before hval hW _ hz hL hsh _
  exact law_contract (P := Tryd.prog) (S := En.Dop.D2) (N := 30) (t := 4) Tryd.m9.holds (fun x hx => by
    have h1 := u32_02 hx.1
    have h2 := Law.numbers_law x.1.toNat (by omega)
    rwa [show I x.1.toNat = x.1 by rw [Law.I_eq]; omega] at h2) laidOut02 ty02 rd02 (by kernel_rfl) (by kernel_rfl) rfl
    (fun ds h => match ds, h with | [_], _ => rfl) hval hW hz (inv02 hL hsh)

theorem lexNumbers_row : Rows.LexNumbersSaid :=
  OpenClaim.holds_of_wide 9 Tryd.f9 rfl rfl rfl rfl rfl rfl rfl ⟨rfl, rfl, rfl, rfl, rfl⟩ rfl rfl rfl rfl rfl (by kernel_rfl) Tryd.func9 (by kernel_rfl)
    (of_decide_eq_true (by kernel_rfl)) (by unfold Func.isWrapper; first | (rw [if_pos (by decide +kernel)]; kernel_rfl) | (rw [if_neg (by decide +kernel)]; exact ⟨rfl, rfl⟩))
    (fun os started H enc _ => lexNumbers_lifted os started H enc)

theorem lexNumbers_holds : Rows.LexNumbersCardSaid :=
  Claim7.holds_tied_plain_at .later [] [.data, .data, .data, .data, .listed, .data, .pinned, .pinned] true (true, "6f83d026ce2500ab10967a6db933fcb2510cc37db35e26edaf5cd6e033420317") false
    lexNumbers_row (fun _ h => by cases h) (by kernel_rfl) (fun _ h => by cases h) lexNumbers_row_tie rfl ⟨rfl, rfl⟩ (by kernel_rfl) rfl
    (fun f fn hf hfn => by
      obtain rfl : f = 9 := Option.some.inj ((show Tryd.prog.funcNamed "doppel/doppellaw02.LexNumbers" = some 9 by kernel_rfl).symm.trans hf) |>.symm
      obtain rfl : fn = Tryd.f9 := (Option.some.inj (Tryd.func9.symm.trans hfn)).symm
      exact ⟨by kernel_rfl, fun j t ht => by
        have hm : t ∈ Tryd.f9.params.toList := by simpa using Array.mem_of_getElem? ht
        have hall : (Tryd.f9.params.toList.all fun u => !Tryd.prog.wantsStandIn u) = true := by kernel_rfl
        exact (show Tryd.prog.wantsStandIn t = false by simpa using List.all_eq_true.1 hall t hm)⟩)
    (by kernel_rfl)
end Go.Proofs.YtcifaokahhbflaaDoor
