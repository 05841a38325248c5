/-
  DERIVED. GIVEN WITH THE SEED: THE CARDS: each row of YtpjlciengdhjoaaGreatDoorRows.lean that lists a variable, with what it lists TIED to the program's text (the seventh form; the later family's looks); each row that meets fmt, with fmt's text TOLD by the authors' own Lean function (tested against real Go, not proved from fmt's source: count such statements apart). THE CARD IS WHAT COUNTS. Prove the row's statement (the work); the ties are given (YtpjlciengdhjoaaGreatDoorTie.lean); close each card by the builder's one call (the guide's Derived/Test/ToyasCard.lean, 'card_holds'). Laid BY PROGRAM, IN A SANDBOX (cutbox-door.mjs). By AI agents, Wed Nov 11 2026. No macro, syntax, notation, axiom, sorry.
-/
import Derived.Test.YtpjlciengdhjoaaGreatDoorRows
import GoSem.ClaimSeven
namespace Go.Proofs.YtpjlciengdhjoaaGreatDoor
namespace Rows

/-- THE TIED CARD OF 'doppellaw06.EvalRows'. -/
def evalRowsCard : Claim7 := { stood := { row := evalRowsRow, standIns := [], harness := (true, "847ddafdc1b5ee500c832a72a303b88c5c27e6065857c461737dcfec68a55513"), looks := false }, kinds := [], alts := [], laidByText := true, laidKinds := [.data, .listed, .data, .pinned, .pinned], laidTests := true, laidLooks := .later }
def EvalRowsCardSaid : Prop := Claim7.holds Tryz.pinned (.plain (OpenSpec.ofChange evalRowsSpec)) evalRowsCard

/-- THE SECOND FORM's CARD OF 'doppellaw06.EvalRows'. -/
def evalRowsUptoCard : Claim7 := { stood := { row := evalRowsUptoRow, standIns := [], harness := (true, "847ddafdc1b5ee500c832a72a303b88c5c27e6065857c461737dcfec68a55513"), looks := false }, kinds := [], alts := [], laidByText := true, laidKinds := [.data, .listed, .data, .pinned, .pinned], laidTests := true, laidLooks := .later }
def EvalRowsUptoCardSaid : Prop := Claim7.holds Tryz.pinned (.plain (OpenSpec.upto evalRowsSpec)) evalRowsUptoCard
end Rows
end Go.Proofs.YtpjlciengdhjoaaGreatDoor
