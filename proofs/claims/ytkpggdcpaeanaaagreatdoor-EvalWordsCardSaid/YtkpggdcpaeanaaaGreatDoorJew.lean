/-
 The law 'EvalWords' returns true, whatever its arguments are, and leaves them as they were; the tied card. (Printed by gen_join.py.)
-/
import Derived.Test.YtkpggdcpaeanaaaGreatDoorLjw
import Derived.Test.YtkpggdcpaeanaaaGreatDoorMy
import Derived.Test.YtkpggdcpaeanaaaGreatDoorCards
import Derived.Test.YtkpggdcpaeanaaaGreatDoorTie
import Derived.SevenTiedAt
namespace Go.Proofs.YtkpggdcpaeanaaaGreatDoor
open Go.ChangeShapes Go.WideShapes Go.ChangeAt Go.RowKit Go.En
theorem ty04 : asB En.Dop.D4 Tryz.prog 30 [.st 19,.st 19] Tryz.f12.params.toList = true := by kernel_rfl
theorem rd04 : (Tryz.f12.params.toList.all fun t => Tryz.prog.readableRec t && decide (t < Tryz.prog.types.size)) = true := by kernel_rfl
set_option maxRecDepth 100000 in
theorem evalWords_lifted (os : Os) (started : os.Started) (H : Type) (enc : TypeId × Value → H) :
  ReturnsInHanded {} Tryz.checked os 12 .any (fun w args => (Rows.evalWordsSpec.pre enc Tryz.prog Tryz.f12 [] false w args ∧ laidMetH Tryz.prog laidL w) ∧ sizedMet enc Tryz.prog Tryz.f12 (OpenSpec.ofChange Rows.evalWordsSpec) false w args)
   (Rows.evalWordsSpec.post enc Tryz.prog Tryz.f12 false true false false) := by
 refine returns_and_shaped (C := Tryz.checked) (X := fun w _ => laidMetH Tryz.prog laidL w) (fun _ _ _ hh h => h.of_heap hh) own04 started (by kernel_rfl) Tryz.func12
  (wit04 (enc := enc) (os := os) #[.agg #[.int .i64 0,.int .i64 0,.slice none 0 0],.agg #[.int .i64 0,.int .i64 0,.slice none 0 0]] (by kernel_rfl) (by kernel_rfl) (by kernel_rfl) (by kernel_rfl) (by kernel_rfl)) ?_
 intro W base args ds gs before hval hW _ hz hL hsh _
 exact law_contract (P := Tryz.prog) (S := En.Dop.D4) (N := 30) (t := 4) Tryz.m12.holds (fun x hx => words_law x.1 x.2.1) laidOut04 ty04 rd04 (by kernel_rfl) (by kernel_rfl) rfl
  (fun ds h => match ds,h with | [_,_],_ => rfl) hval hW hz (inv04 hL hsh)
theorem jf_laid : laidOutB Tryz.checked.prog = true := by kernel_rfl
theorem jf_maps : mapsRowed Tryz.checked.prog = true := by kernel_rfl
theorem jf_heard : Tryz.checked.prog.stopsHeard = true := by kernel_rfl
theorem jf_may : Tryz.checked.prog.mayEnter = true := by kernel_rfl
theorem jf_lift : (Rows.evalWordsRow.lifted == Tryz.checked.prog.liftsFinal) = true := by kernel_rfl
theorem jf_stops : (Tryz.checked.prog.stops == []) = true := by kernel_rfl
theorem jf_knobs : (Tryz.checked.prog.stopKnobs == []) = true := by kernel_rfl
theorem jf_in : (Rows.evalWordsRow.inPlace == Tryz.checked.prog.inPlace 12) = true := by kernel_rfl
theorem jf_un : (Rows.evalWordsRow.unfollowed == Tryz.checked.prog.unfollowed 12) = true := by kernel_rfl
theorem jf_rec : (Rows.evalWordsRow.recurses == Tryz.checked.prog.recurses 12) = true := by kernel_rfl
theorem jf_named : (Rows.evalWordsRow.named == Tryz.checked.prog.varsNamed 12) = true := by kernel_rfl
theorem jf_keys : (Rows.evalWordsRow.plainKeys == Tryz.checked.prog.plainKeys) = true := by kernel_rfl
theorem jf_and {a b : Bool} (ha : a = true) (hb : b = true) : (a && b) = true := by rw [ha,hb]; rfl
theorem evalWords_facts : joinedFacts Tryz.checked.prog 12 Tryz.f12 Rows.evalWordsSpec Rows.evalWordsRow = true := by
 unfold joinedFacts
 exact jf_and (jf_and (jf_and (jf_and (jf_and (jf_and (jf_and (jf_and (jf_and (jf_and (jf_and (jf_and (jf_and (jf_and (jf_and (jf_and (jf_and (jf_and (jf_and (jf_and (jf_and (jf_and (jf_and (jf_and (jf_and (jf_and (jf_and (jf_and (jf_and (jf_and (jf_and (by kernel_rfl) jf_laid) jf_maps) (by kernel_rfl)) (by kernel_rfl)) (by kernel_rfl)) jf_stops) (by kernel_rfl)) jf_knobs) jf_in) jf_un) jf_rec) jf_named)
  (by kernel_rfl)) (by kernel_rfl)) (by kernel_rfl)) (by kernel_rfl)) (by kernel_rfl)) (by kernel_rfl)) (by kernel_rfl)) (by kernel_rfl)) (by kernel_rfl)) jf_keys) (by kernel_rfl)) jf_heard) jf_may) jf_lift) (by kernel_rfl)) (by kernel_rfl)) (by kernel_rfl)) (by kernel_rfl)) (by kernel_rfl)
theorem evalWords_row : Rows.EvalWordsSaid :=
 OpenClaim.holds_of_wide 12 Tryz.f12 rfl rfl rfl rfl rfl rfl rfl ⟨rfl,rfl,rfl,rfl,rfl⟩ rfl rfl rfl rfl rfl (by kernel_rfl) Tryz.func12 evalWords_facts
  (of_decide_eq_true (by kernel_rfl)) (by unfold Func.isWrapper; first | (rw [if_pos (by decide +kernel)]; kernel_rfl) | (rw [if_neg (by decide +kernel)]; exact ⟨rfl,rfl⟩))
  (fun os started H enc _ => evalWords_lifted os started H enc)
theorem jf_main : Tryz.checked.prog.mainIs = some (true,("62268854c61a2c8f6d8cffc471d9ac404eac6616331ee5bbccb1a5c43aa59136" : String).toList) := by kernel_rfl
theorem jf_looks : false = Tryz.checked.prog.looks [] := by kernel_rfl
theorem jf_goes : false = Rows.evalWordsRow.goesBy Tryz.checked.prog := by kernel_rfl
theorem jf_wf : Rows.evalWordsRow.wfByText (OpenSpec.ofChange Rows.evalWordsSpec) = true := by kernel_rfl
theorem jf_fn : Tryz.prog.funcNamed "doppel/doppellaw06.EvalWords" = some 12 := by kernel_rfl
theorem jf_want : (Tryz.f12.params.toList.all fun u => !Tryz.prog.wantsStandIn u) = true := by kernel_rfl
theorem evalWords_holds : Rows.EvalWordsCardSaid :=
 Claim7.holds_tied_plain_at .later [] [.data,.listed,.data,.pinned,.pinned] true (true,"62268854c61a2c8f6d8cffc471d9ac404eac6616331ee5bbccb1a5c43aa59136") false
  evalWords_row (fun _ h => by cases h) jf_wf (fun _ h => by cases h) evalWords_row_tie rfl ⟨rfl,rfl⟩ jf_main rfl
  (fun f fn hf hfn => by
   obtain rfl : f = 12 := Option.some.inj (jf_fn.symm.trans hf) |>.symm
   obtain rfl : fn = Tryz.f12 := (Option.some.inj (Tryz.func12.symm.trans hfn)).symm
   exact ⟨jf_looks,fun j t ht => by
    have hm : t ∈ Tryz.f12.params.toList := by simpa using Array.mem_of_getElem? ht
    exact (show Tryz.prog.wantsStandIn t = false by simpa using List.all_eq_true.1 jf_want t hm)⟩)
  jf_goes
end Go.Proofs.YtkpggdcpaeanaaaGreatDoor
