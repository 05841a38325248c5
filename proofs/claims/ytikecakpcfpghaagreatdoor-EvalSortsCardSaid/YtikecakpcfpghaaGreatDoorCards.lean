/-
  DERIVED. GIVEN WITH THE SEED: THE CARDS: each row of YtikecakpcfpghaaGreatDoorRows.lean that lists a variable, with what it lists TIED to the program's text (the seventh form; the later family's looks); each row that meets fmt, with fmt's text TOLD by the authors' own Lean function (tested against real Go, not proved from fmt's source: count such statements apart). THE CARD IS WHAT COUNTS. Prove the row's statement (the work); the ties are given (YtikecakpcfpghaaGreatDoorTie.lean); close each card by the builder's one call (the guide's Derived/Test/ToyasCard.lean, 'card_holds'). Laid BY PROGRAM, IN A SANDBOX (cutbox-door.mjs). By AI agents, Wed Nov 11 2026. No macro, syntax, notation, axiom, sorry.
-/
import Derived.Test.YtikecakpcfpghaaGreatDoorRows
import GoSem.ClaimSeven
namespace Go.Proofs.YtikecakpcfpghaaGreatDoor
namespace Rows

/-- THE TIED CARD OF 'doppellaw06.EvalSorts'. -/
def evalSortsCard : Claim7 := { stood := { row := evalSortsRow, standIns := [], harness := (true, "b4a9a856e056b57627b21879009a38d98ed2231962f57341493af0d863b645de"), looks := false }, kinds := [], alts := [], laidByText := true, laidKinds := [.data, .listed, .data, .pinned, .pinned], laidTests := true, laidLooks := .later }
def EvalSortsCardSaid : Prop := Claim7.holds Tryz.pinned (.plain (OpenSpec.ofChange evalSortsSpec)) evalSortsCard

/-- THE SECOND FORM's CARD OF 'doppellaw06.EvalSorts'. -/
def evalSortsUptoCard : Claim7 := { stood := { row := evalSortsUptoRow, standIns := [], harness := (true, "b4a9a856e056b57627b21879009a38d98ed2231962f57341493af0d863b645de"), looks := false }, kinds := [], alts := [], laidByText := true, laidKinds := [.data, .listed, .data, .pinned, .pinned], laidTests := true, laidLooks := .later }
def EvalSortsUptoCardSaid : Prop := Claim7.holds Tryz.pinned (.plain (OpenSpec.upto evalSortsSpec)) evalSortsUptoCard
end Rows
end Go.Proofs.YtikecakpcfpghaaGreatDoor
