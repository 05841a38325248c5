/-
  The law 'LexBytes' returns true, whatever its arguments are, and leaves them as they were; the tied card. (Printed by gen_join.py.)
-/
import Derived.Test.YtcifaokahhbflaaDoorLj
import Derived.Test.YtcifaokahhbflaaDoorLxK
import Derived.Test.YtcifaokahhbflaaDoorCards
import Derived.Test.YtcifaokahhbflaaDoorTie
import Derived.SevenTiedAt
namespace Go.Proofs.YtcifaokahhbflaaDoor
open Go.ChangeShapes Go.WideShapes Go.ChangeAt Go.RowKit Go.En

theorem ty02 : asB En.Dop.D2 Tryd.prog 30 [.fd (.int .u8)] Tryd.f8.params.toList = true := by kernel_rfl
theorem rd02 : (Tryd.f8.params.toList.all fun t => Tryd.prog.readableRec t && decide (t < Tryd.prog.types.size)) = true := by kernel_rfl

set_option maxRecDepth 100000 in
theorem lexBytes_lifted (os : Os) (started : os.Started) (H : Type) (enc : TypeId × Value → H) :
    ReturnsInHanded {} Tryd.checked os 8 .any (fun w args => (Rows.lexBytesSpec.pre enc Tryd.prog Tryd.f8 [] false w args ∧ laidMetH Tryd.prog laidL w) ∧ sizedMet enc Tryd.prog Tryd.f8 (OpenSpec.ofChange Rows.lexBytesSpec) false w args)
      (Rows.lexBytesSpec.post enc Tryd.prog Tryd.f8 false true false false) := by
  refine returns_and_shaped (C := Tryd.checked) (X := fun w _ => laidMetH Tryd.prog laidL w) (fun _ _ _ hh h => h.of_heap hh) own02 started (by kernel_rfl) Tryd.func8
    (wit02 (enc := enc) (os := os) #[.int .u8 0] (by kernel_rfl) (by kernel_rfl) (by kernel_rfl) (by kernel_rfl) (by kernel_rfl)) ?_
  intro W base args ds gs before hval hW _ hz hL hsh _
  exact law_contract (P := Tryd.prog) (S := En.Dop.D2) (N := 30) (t := 4) Tryd.m8.holds (fun x hx => Law.bytes_law x.1 (byte02 hx.1)) laidOut02 ty02 rd02 (by kernel_rfl) (by kernel_rfl) rfl
    (fun ds h => match ds, h with | [_], _ => rfl) hval hW hz (inv02 hL hsh)

theorem lexBytes_row : Rows.LexBytesSaid :=
  OpenClaim.holds_of_wide 8 Tryd.f8 rfl rfl rfl rfl rfl rfl rfl ⟨rfl, rfl, rfl, rfl, rfl⟩ rfl rfl rfl rfl rfl (by kernel_rfl) Tryd.func8 (by kernel_rfl)
    (of_decide_eq_true (by kernel_rfl)) (by unfold Func.isWrapper; first | (rw [if_pos (by decide +kernel)]; kernel_rfl) | (rw [if_neg (by decide +kernel)]; exact ⟨rfl, rfl⟩))
    (fun os started H enc _ => lexBytes_lifted os started H enc)

theorem lexBytes_holds : Rows.LexBytesCardSaid :=
  Claim7.holds_tied_plain_at .later [] [.data, .listed, .data, .pinned, .pinned] true (true, "6f83d026ce2500ab10967a6db933fcb2510cc37db35e26edaf5cd6e033420317") false
    lexBytes_row (fun _ h => by cases h) (by kernel_rfl) (fun _ h => by cases h) lexBytes_row_tie rfl ⟨rfl, rfl⟩ (by kernel_rfl) rfl
    (fun f fn hf hfn => by
      obtain rfl : f = 8 := Option.some.inj ((show Tryd.prog.funcNamed "doppel/doppellaw02.LexBytes" = some 8 by kernel_rfl).symm.trans hf) |>.symm
      obtain rfl : fn = Tryd.f8 := (Option.some.inj (Tryd.func8.symm.trans hfn)).symm
      exact ⟨by kernel_rfl, fun j t ht => by
        have hm : t ∈ Tryd.f8.params.toList := by simpa using Array.mem_of_getElem? ht
        have hall : (Tryd.f8.params.toList.all fun u => !Tryd.prog.wantsStandIn u) = true := by kernel_rfl
        exact (show Tryd.prog.wantsStandIn t = false by simpa using List.all_eq_true.1 hall t hm)⟩)
    (by kernel_rfl)
end Go.Proofs.YtcifaokahhbflaaDoor
