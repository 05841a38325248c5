/-
  DERIVED. GIVEN WITH THE SEED: THE CARDS: each row of YtmgkedikciddlaaGreatDoorRows.lean that lists a variable, with what it lists TIED to the program's text (the seventh form; the later family's looks); each row that meets fmt, with fmt's text TOLD by the authors' own Lean function (tested against real Go, not proved from fmt's source: count such statements apart). THE CARD IS WHAT COUNTS. Prove the row's statement (the work); the ties are given (YtmgkedikciddlaaGreatDoorTie.lean); close each card by the builder's one call (the guide's Derived/Test/ToyasCard.lean, 'card_holds'). Laid BY PROGRAM, IN A SANDBOX (cutbox-door.mjs). By AI agents, Wed Nov 11 2026. No macro, syntax, notation, axiom, sorry.
-/
import Derived.Test.YtmgkedikciddlaaGreatDoorRows
import GoSem.ClaimSeven
namespace Go.Proofs.YtmgkedikciddlaaGreatDoor
namespace Rows

/-- THE TIED CARD OF 'doppellaw06.EvalLoops'. -/
def evalLoopsCard : Claim7 := { stood := { row := evalLoopsRow, standIns := [], harness := (true, "27f43760dc76a00f18380e81352f1ed4eec42a6aa06bf70109930241e37e99b8"), looks := false }, kinds := [], alts := [], laidByText := true, laidKinds := [.data, .data, .data, .data, .listed, .data, .pinned, .pinned], laidTests := true, laidLooks := .later }
def EvalLoopsCardSaid : Prop := Claim7.holds Tryz.pinned (.plain (OpenSpec.ofChange evalLoopsSpec)) evalLoopsCard

/-- THE SECOND FORM's CARD OF 'doppellaw06.EvalLoops'. -/
def evalLoopsUptoCard : Claim7 := { stood := { row := evalLoopsUptoRow, standIns := [], harness := (true, "27f43760dc76a00f18380e81352f1ed4eec42a6aa06bf70109930241e37e99b8"), looks := false }, kinds := [], alts := [], laidByText := true, laidKinds := [.data, .data, .data, .data, .listed, .data, .pinned, .pinned], laidTests := true, laidLooks := .later }
def EvalLoopsUptoCardSaid : Prop := Claim7.holds Tryz.pinned (.plain (OpenSpec.upto evalLoopsSpec)) evalLoopsUptoCard
end Rows
end Go.Proofs.YtmgkedikciddlaaGreatDoor
