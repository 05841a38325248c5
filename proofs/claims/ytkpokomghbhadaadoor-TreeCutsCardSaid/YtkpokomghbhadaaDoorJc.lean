/-
 The law 'TreeCuts' returns true, whatever its arguments are, and leaves them as they were; the tied card. (Printed by gen_join.py.)
-/
import Derived.Test.YtkpokomghbhadaaDoorLj
import Derived.Test.YtkpokomghbhadaaDoorTrIJK
import Derived.Test.YtkpokomghbhadaaDoorCards
import Derived.Test.YtkpokomghbhadaaDoorTie
import Derived.SevenTiedAt
namespace Go.Proofs.YtkpokomghbhadaaDoor
open Go.ChangeShapes Go.WideShapes Go.ChangeAt Go.RowKit Go.En
theorem ty04 : asB En.Dop.D4 Tryd.prog 30 [.fd .str] Tryd.f3.params.toList = true := by kernel_rfl
theorem rd04 : (Tryd.f3.params.toList.all fun t => Tryd.prog.readableRec t && decide (t < Tryd.prog.types.size)) = true := by kernel_rfl
set_option maxRecDepth 100000 in
theorem treeCuts_lifted (os : Os) (started : os.Started) (H : Type) (enc : TypeId × Value → H) :
  ReturnsInHanded {} Tryd.checked os 3 .any (fun w args => (Rows.treeCutsSpec.pre enc Tryd.prog Tryd.f3 [] false w args ∧ laidMetH Tryd.prog laidL w) ∧ sizedMet enc Tryd.prog Tryd.f3 (OpenSpec.ofChange Rows.treeCutsSpec) false w args)
   (Rows.treeCutsSpec.post enc Tryd.prog Tryd.f3 false true false false) := by
 refine returns_and_shaped (C := Tryd.checked) (X := fun w _ => laidMetH Tryd.prog laidL w) (fun _ _ _ hh h => h.of_heap hh) own04 started (by kernel_rfl) Tryd.func3
  (wit04 (enc := enc) (os := os) #[.string ⟨#[]⟩] (by kernel_rfl) (by kernel_rfl) (by kernel_rfl) (by kernel_rfl) (by kernel_rfl)) ?_
 intro W base args ds gs before hval hW _ hz hL hsh _
 exact law_contract (P := Tryd.prog) (S := En.Dop.D4) (N := 30) (t := 4) Tryd.m3.holds (fun x hx => TR.cuts_law x.1) laidOut04 ty04 rd04 (by kernel_rfl) (by kernel_rfl) rfl
  (fun ds h => match ds, h with | [_], _ => rfl) hval hW hz (inv04 hL hsh)
theorem treeCuts_row : Rows.TreeCutsSaid :=
 OpenClaim.holds_of_wide 3 Tryd.f3 rfl rfl rfl rfl rfl rfl rfl ⟨rfl, rfl, rfl, rfl, rfl⟩ rfl rfl rfl rfl rfl (by kernel_rfl) Tryd.func3 (by kernel_rfl)
  (of_decide_eq_true (by kernel_rfl)) (by unfold Func.isWrapper; first | (rw [if_pos (by decide +kernel)]; kernel_rfl) | (rw [if_neg (by decide +kernel)]; exact ⟨rfl, rfl⟩))
  (fun os started H enc _ => treeCuts_lifted os started H enc)
theorem treeCuts_holds : Rows.TreeCutsCardSaid :=
 Claim7.holds_tied_plain_at .later [] [.data, .listed, .data, .pinned, .pinned] true (true, "6569dc9f0e363b4507f99658cbe2c2041e7359a8507541f1694987ae4c86193e") false
  treeCuts_row (fun _ h => by cases h) (by kernel_rfl) (fun _ h => by cases h) treeCuts_row_tie rfl ⟨rfl, rfl⟩ (by kernel_rfl) rfl
  (fun f fn hf hfn => by
   obtain rfl : f = 3 := Option.some.inj ((show Tryd.prog.funcNamed "doppel/doppellaw04.TreeCuts" = some 3 by kernel_rfl).symm.trans hf) |>.symm
   obtain rfl : fn = Tryd.f3 := (Option.some.inj (Tryd.func3.symm.trans hfn)).symm
   exact ⟨by kernel_rfl, fun j t ht => by
    have hm : t ∈ Tryd.f3.params.toList := by simpa using Array.mem_of_getElem? ht
    have hall : (Tryd.f3.params.toList.all fun u => !Tryd.prog.wantsStandIn u) = true := by kernel_rfl
    exact (show Tryd.prog.wantsStandIn t = false by simpa using List.all_eq_true.1 hall t hm)⟩)
  (by kernel_rfl)
end Go.Proofs.YtkpokomghbhadaaDoor
