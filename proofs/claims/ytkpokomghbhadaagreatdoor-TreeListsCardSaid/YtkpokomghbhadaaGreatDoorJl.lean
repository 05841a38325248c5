/-
 The law 'TreeLists' returns true, whatever its arguments are, and leaves them as they were; the tied card. (Printed by gen_join.py.)
-/
import Derived.Test.YtkpokomghbhadaaGreatDoorLjl
import Derived.Test.YtkpokomghbhadaaGreatDoorTlABC
import Derived.Test.YtkpokomghbhadaaGreatDoorCards
import Derived.Test.YtkpokomghbhadaaGreatDoorTie
import Derived.SevenTiedAt
namespace Go.Proofs.YtkpokomghbhadaaGreatDoor
open Go.ChangeShapes Go.WideShapes Go.ChangeAt Go.RowKit Go.En
theorem ty04 : asB En.Dop.D4 Tryz.prog 30 [.fd (.int .u8),.fd (.int .u8)] Tryz.f3.params.toList = true := by kernel_rfl
theorem rd04 : (Tryz.f3.params.toList.all fun t => Tryz.prog.readableRec t && decide (t < Tryz.prog.types.size)) = true := by kernel_rfl
set_option maxRecDepth 100000 in
theorem treeLists_lifted (os : Os) (started : os.Started) (H : Type) (enc : TypeId × Value → H) :
  ReturnsInHanded {} Tryz.checked os 3 .any (fun w args => (Rows.treeListsSpec.pre enc Tryz.prog Tryz.f3 [] false w args ∧ laidMetH Tryz.prog laidL w) ∧ sizedMet enc Tryz.prog Tryz.f3 (OpenSpec.ofChange Rows.treeListsSpec) false w args)
   (Rows.treeListsSpec.post enc Tryz.prog Tryz.f3 false true false false) := by
 refine returns_and_shaped (C := Tryz.checked) (X := fun w _ => laidMetH Tryz.prog laidL w) (fun _ _ _ hh h => h.of_heap hh) own04 started (by kernel_rfl) Tryz.func3
  (wit04 (enc := enc) (os := os) #[.int .u8 0,.int .u8 0] (by kernel_rfl) (by kernel_rfl) (by kernel_rfl) (by kernel_rfl) (by kernel_rfl)) ?_
 intro W base args ds gs before hval hW _ hz hL hsh _
 exact law_contract (P := Tryz.prog) (S := En.Dop.D4) (N := 30) (t := 4) Tryz.m3.holds (fun x hx => TR.lists_law x.1 x.2.1 (byte02 hx.1) (byte02 hx.2.1)) laidOut04 ty04 rd04 (by kernel_rfl) (by kernel_rfl) rfl
  (fun ds h => match ds,h with | [_,_],_ => rfl) hval hW hz (inv04 hL hsh)
theorem treeLists_row : Rows.TreeListsSaid :=
 OpenClaim.holds_of_wide 3 Tryz.f3 rfl rfl rfl rfl rfl rfl rfl ⟨rfl,rfl,rfl,rfl,rfl⟩ rfl rfl rfl rfl rfl (by kernel_rfl) Tryz.func3 (by kernel_rfl)
  (of_decide_eq_true (by kernel_rfl)) (by unfold Func.isWrapper; first | (rw [if_pos (by decide +kernel)]; kernel_rfl) | (rw [if_neg (by decide +kernel)]; exact ⟨rfl,rfl⟩))
  (fun os started H enc _ => treeLists_lifted os started H enc)
theorem treeLists_holds : Rows.TreeListsCardSaid :=
 Claim7.holds_tied_plain_at .later [] [.data,.listed,.data,.pinned,.pinned] true (true,"dfa3e0e4b99a8e60b4fe067f8a820cebad5ab46eb4af29c1e685f62e81975e1d") false
  treeLists_row (fun _ h => by cases h) (by kernel_rfl) (fun _ h => by cases h) treeLists_row_tie rfl ⟨rfl,rfl⟩ (by kernel_rfl) rfl
  (fun f fn hf hfn => by
   obtain rfl : f = 3 := Option.some.inj ((show Tryz.prog.funcNamed "doppel/doppellaw04.TreeLists" = some 3 by kernel_rfl).symm.trans hf) |>.symm
   obtain rfl : fn = Tryz.f3 := (Option.some.inj (Tryz.func3.symm.trans hfn)).symm
   exact ⟨by kernel_rfl,fun j t ht => by
    have hm : t ∈ Tryz.f3.params.toList := by simpa using Array.mem_of_getElem? ht
    have hall : (Tryz.f3.params.toList.all fun u => !Tryz.prog.wantsStandIn u) = true := by kernel_rfl
    exact (show Tryz.prog.wantsStandIn t = false by simpa using List.all_eq_true.1 hall t hm)⟩)
  (by kernel_rfl)
end Go.Proofs.YtkpokomghbhadaaGreatDoor
