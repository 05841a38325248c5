/-
  The law 'CloseChain' returns true, whatever its arguments are, and leaves them as they were; the tied card. (Printed by gen_join.py.)
-/
import Derived.Test.YtfdlkehaccgeeaaDoorJl
import Derived.Test.YtfdlkehaccgeeaaDoorCards
import Derived.Test.YtfdlkehaccgeeaaDoorTie
import Derived.SevenTiedAt
namespace Go.Proofs.YtfdlkehaccgeeaaDoor
open Go.ChangeShapes Go.WideShapes Go.ChangeAt Go.RowKit Go.En

theorem ty18 : asB En.Dop.D18 Tryd.prog 30 [.fd (.int .u8), .fd (.int .u8)] Tryd.f6.params.toList = true := by kernel_rfl
theorem rd18 : (Tryd.f6.params.toList.all fun t => Tryd.prog.readableRec t && decide (t < Tryd.prog.types.size)) = true := by kernel_rfl

set_option maxRecDepth 100000 in
theorem closeChain_lifted (os : Os) (started : os.Started) (H : Type) (enc : TypeId × Value → H) :
    ReturnsInHanded {} Tryd.checked os 6 .any (fun w args => (Rows.closeChainSpec.pre enc Tryd.prog Tryd.f6 [] false w args ∧ laidMetH Tryd.prog laidL w) ∧ sizedMet enc Tryd.prog Tryd.f6 (OpenSpec.ofChange Rows.closeChainSpec) false w args)
      (Rows.closeChainSpec.post enc Tryd.prog Tryd.f6 false true false false) := by
  refine returnsInHanded_of_change_and (C := Tryd.checked) (X := fun w _ => laidMetH Tryd.prog laidL w) (fun _ _ _ hh h => h.of_heap hh) own18 started (by kernel_rfl) Tryd.func6
    (wit18 (enc := enc) (os := os) #[.int .u8 0, .int .u8 0] (by kernel_rfl) (by kernel_rfl) (by kernel_rfl) (by kernel_rfl) (by kernel_rfl)) ?_
  intro W base args ds gs before hval hW _ hz hL _
  exact law_contract (P := Tryd.prog) (S := En.Dop.D18) (N := 30) (t := 4) Tryd.m6.holds (fun x hx => by
      have h1 := byte18 hx.1
      have h2 := byte18 hx.2.1
      have := Law.chain_law x.1.toNat x.2.1.toNat (by omega) (by omega)
      rwa [show I x.1.toNat = x.1 by rw [Law.I_eq]; omega, show I x.2.1.toNat = x.2.1 by rw [Law.I_eq]; omega] at this) laidOut18 ty18 rd18 (by kernel_rfl) (by kernel_rfl) rfl
    (fun ds h => match ds, h with | [_, _], _ => rfl) hval hW hz (inv18 hL)

theorem closeChain_row : Rows.CloseChainSaid :=
  OpenClaim.holds_of_wide 6 Tryd.f6 rfl rfl rfl rfl rfl rfl rfl ⟨rfl, rfl, rfl, rfl, rfl⟩ rfl rfl rfl rfl rfl (by kernel_rfl) Tryd.func6 (by kernel_rfl)
    (of_decide_eq_true (by kernel_rfl)) (by unfold Func.isWrapper; first | (rw [if_pos (by decide +kernel)]; kernel_rfl) | (rw [if_neg (by decide +kernel)]; exact ⟨rfl, rfl⟩))
    (fun os started H enc _ => closeChain_lifted os started H enc)

theorem closeChain_holds : Rows.CloseChainCardSaid :=
  Claim7.holds_tied_plain_at .later [] [.data, .data, .data, .data, .pinned, .pinned, .pinned, .pinned, .pinned, .pinned] true (true, "2b61129c962f0fd17f4dc1480e9014f2cc7db150c0103c878abf91d1fa34b098") false
    closeChain_row (fun _ h => by cases h) (by kernel_rfl) (fun _ h => by cases h) closeChain_row_tie rfl ⟨rfl, rfl⟩ (by kernel_rfl) rfl
    (fun f fn hf hfn => by
      obtain rfl : f = 6 := Option.some.inj ((show Tryd.prog.funcNamed "doppel/doppellaw18.CloseChain" = some 6 by kernel_rfl).symm.trans hf) |>.symm
      obtain rfl : fn = Tryd.f6 := (Option.some.inj (Tryd.func6.symm.trans hfn)).symm
      exact ⟨by kernel_rfl, fun j t ht => by
        have hm : t ∈ Tryd.f6.params.toList := by simpa using Array.mem_of_getElem? ht
        have hall : (Tryd.f6.params.toList.all fun u => !Tryd.prog.wantsStandIn u) = true := by kernel_rfl
        exact (show Tryd.prog.wantsStandIn t = false by simpa using List.all_eq_true.1 hall t hm)⟩)
    (by kernel_rfl)
end Go.Proofs.YtfdlkehaccgeeaaDoor
