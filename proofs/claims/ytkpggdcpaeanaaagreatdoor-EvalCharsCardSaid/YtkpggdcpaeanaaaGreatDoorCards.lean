/-
  DERIVED. GIVEN WITH THE SEED: THE CARDS: each row of YtkpggdcpaeanaaaGreatDoorRows.lean that lists a variable, with what it lists TIED to the program's text (the seventh form; the later family's looks); each row that meets fmt, with fmt's text TOLD by the authors' own Lean function (tested against real Go, not proved from fmt's source: count such statements apart). THE CARD IS WHAT COUNTS. Prove the row's statement (the work); the ties are given (YtkpggdcpaeanaaaGreatDoorTie.lean); close each card by the builder's one call (the guide's Derived/Test/ToyasCard.lean, 'card_holds'). Laid BY PROGRAM, IN A SANDBOX (cutbox-door.mjs). By AI agents, Wed Nov 11 2026. No macro, syntax, notation, axiom, sorry.
-/
import Derived.Test.YtkpggdcpaeanaaaGreatDoorRows
import GoSem.ClaimSeven
namespace Go.Proofs.YtkpggdcpaeanaaaGreatDoor
namespace Rows

/-- THE TIED CARD OF 'doppellaw05.CoreGlobals'. -/
def coreGlobalsCard : Claim7 := { stood := { row := coreGlobalsRow, standIns := [], harness := (true, "62268854c61a2c8f6d8cffc471d9ac404eac6616331ee5bbccb1a5c43aa59136"), looks := false }, kinds := [], alts := [], laidByText := true, laidKinds := [.data, .listed, .data, .pinned, .pinned], laidTests := true, laidLooks := .later }
def CoreGlobalsCardSaid : Prop := Claim7.holds Tryz.pinned (.plain (OpenSpec.ofChange coreGlobalsSpec)) coreGlobalsCard

/-- THE TIED CARD OF 'doppellaw05.CoreMains'. -/
def coreMainsCard : Claim7 := { stood := { row := coreMainsRow, standIns := [], harness := (true, "62268854c61a2c8f6d8cffc471d9ac404eac6616331ee5bbccb1a5c43aa59136"), looks := false }, kinds := [], alts := [], laidByText := true, laidKinds := [.data, .listed, .data, .pinned, .pinned], laidTests := true, laidLooks := .later }
def CoreMainsCardSaid : Prop := Claim7.holds Tryz.pinned (.plain (OpenSpec.ofChange coreMainsSpec)) coreMainsCard

/-- THE TIED CARD OF 'doppellaw05.CoreTypes'. -/
def coreTypesCard : Claim7 := { stood := { row := coreTypesRow, standIns := [], harness := (true, "62268854c61a2c8f6d8cffc471d9ac404eac6616331ee5bbccb1a5c43aa59136"), looks := false }, kinds := [], alts := [], laidByText := true, laidKinds := [.data, .listed, .data, .pinned, .pinned], laidTests := true, laidLooks := .later }
def CoreTypesCardSaid : Prop := Claim7.holds Tryz.pinned (.plain (OpenSpec.ofChange coreTypesSpec)) coreTypesCard

/-- THE TIED CARD OF 'doppellaw05.CoreRights'. -/
def coreRightsCard : Claim7 := { stood := { row := coreRightsRow, standIns := [], harness := (true, "62268854c61a2c8f6d8cffc471d9ac404eac6616331ee5bbccb1a5c43aa59136"), looks := false }, kinds := [], alts := [], laidByText := true, laidKinds := [.data, .listed, .data, .pinned, .pinned], laidTests := true, laidLooks := .later }
def CoreRightsCardSaid : Prop := Claim7.holds Tryz.pinned (.plain (OpenSpec.ofChange coreRightsSpec)) coreRightsCard

/-- THE TIED CARD OF 'doppellaw05.CoreNames'. -/
def coreNamesCard : Claim7 := { stood := { row := coreNamesRow, standIns := [], harness := (true, "62268854c61a2c8f6d8cffc471d9ac404eac6616331ee5bbccb1a5c43aa59136"), looks := false }, kinds := [], alts := [], laidByText := true, laidKinds := [.data, .data, .data, .data, .listed, .data, .pinned, .pinned], laidTests := true, laidLooks := .later }
def CoreNamesCardSaid : Prop := Claim7.holds Tryz.pinned (.plain (OpenSpec.ofChange coreNamesSpec)) coreNamesCard

/-- THE TIED CARD OF 'doppellaw06.EvalSorts'. -/
def evalSortsCard : Claim7 := { stood := { row := evalSortsRow, standIns := [], harness := (true, "62268854c61a2c8f6d8cffc471d9ac404eac6616331ee5bbccb1a5c43aa59136"), looks := false }, kinds := [], alts := [], laidByText := true, laidKinds := [.data, .listed, .data, .pinned, .pinned], laidTests := true, laidLooks := .later }
def EvalSortsCardSaid : Prop := Claim7.holds Tryz.pinned (.plain (OpenSpec.ofChange evalSortsSpec)) evalSortsCard

/-- THE TIED CARD OF 'doppellaw06.EvalRows'. -/
def evalRowsCard : Claim7 := { stood := { row := evalRowsRow, standIns := [], harness := (true, "62268854c61a2c8f6d8cffc471d9ac404eac6616331ee5bbccb1a5c43aa59136"), looks := false }, kinds := [], alts := [], laidByText := true, laidKinds := [.data, .listed, .data, .pinned, .pinned], laidTests := true, laidLooks := .later }
def EvalRowsCardSaid : Prop := Claim7.holds Tryz.pinned (.plain (OpenSpec.ofChange evalRowsSpec)) evalRowsCard

/-- THE TIED CARD OF 'doppellaw06.EvalPrograms'. -/
def evalProgramsCard : Claim7 := { stood := { row := evalProgramsRow, standIns := [], harness := (true, "62268854c61a2c8f6d8cffc471d9ac404eac6616331ee5bbccb1a5c43aa59136"), looks := false }, kinds := [], alts := [], laidByText := true, laidKinds := [.data, .listed, .data, .pinned, .pinned], laidTests := true, laidLooks := .later }
def EvalProgramsCardSaid : Prop := Claim7.holds Tryz.pinned (.plain (OpenSpec.ofChange evalProgramsSpec)) evalProgramsCard

/-- THE TIED CARD OF 'doppellaw06.EvalFuel'. -/
def evalFuelCard : Claim7 := { stood := { row := evalFuelRow, standIns := [], harness := (true, "62268854c61a2c8f6d8cffc471d9ac404eac6616331ee5bbccb1a5c43aa59136"), looks := false }, kinds := [], alts := [], laidByText := true, laidKinds := [.data, .listed, .data, .pinned, .pinned], laidTests := true, laidLooks := .later }
def EvalFuelCardSaid : Prop := Claim7.holds Tryz.pinned (.plain (OpenSpec.ofChange evalFuelSpec)) evalFuelCard

/-- THE TIED CARD OF 'doppellaw06.EvalWords'. -/
def evalWordsCard : Claim7 := { stood := { row := evalWordsRow, standIns := [], harness := (true, "62268854c61a2c8f6d8cffc471d9ac404eac6616331ee5bbccb1a5c43aa59136"), looks := false }, kinds := [], alts := [], laidByText := true, laidKinds := [.data, .listed, .data, .pinned, .pinned], laidTests := true, laidLooks := .later }
def EvalWordsCardSaid : Prop := Claim7.holds Tryz.pinned (.plain (OpenSpec.ofChange evalWordsSpec)) evalWordsCard

/-- THE TIED CARD OF 'doppellaw06.EvalEchoes'. -/
def evalEchoesCard : Claim7 := { stood := { row := evalEchoesRow, standIns := [], harness := (true, "62268854c61a2c8f6d8cffc471d9ac404eac6616331ee5bbccb1a5c43aa59136"), looks := false }, kinds := [], alts := [], laidByText := true, laidKinds := [.data, .data, .data, .data, .listed, .data, .pinned, .pinned], laidTests := true, laidLooks := .later }
def EvalEchoesCardSaid : Prop := Claim7.holds Tryz.pinned (.plain (OpenSpec.ofChange evalEchoesSpec)) evalEchoesCard

/-- THE TIED CARD OF 'doppellaw06.EvalAddresses'. -/
def evalAddressesCard : Claim7 := { stood := { row := evalAddressesRow, standIns := [], harness := (true, "62268854c61a2c8f6d8cffc471d9ac404eac6616331ee5bbccb1a5c43aa59136"), looks := false }, kinds := [], alts := [], laidByText := true, laidKinds := [.data, .data, .data, .data, .listed, .data, .pinned, .pinned], laidTests := true, laidLooks := .later }
def EvalAddressesCardSaid : Prop := Claim7.holds Tryz.pinned (.plain (OpenSpec.ofChange evalAddressesSpec)) evalAddressesCard

/-- THE TIED CARD OF 'doppellaw06.EvalLoops'. -/
def evalLoopsCard : Claim7 := { stood := { row := evalLoopsRow, standIns := [], harness := (true, "62268854c61a2c8f6d8cffc471d9ac404eac6616331ee5bbccb1a5c43aa59136"), looks := false }, kinds := [], alts := [], laidByText := true, laidKinds := [.data, .data, .data, .data, .listed, .data, .pinned, .pinned], laidTests := true, laidLooks := .later }
def EvalLoopsCardSaid : Prop := Claim7.holds Tryz.pinned (.plain (OpenSpec.ofChange evalLoopsSpec)) evalLoopsCard

/-- THE TIED CARD OF 'doppellaw06.EvalChars'. -/
def evalCharsCard : Claim7 := { stood := { row := evalCharsRow, standIns := [], harness := (true, "62268854c61a2c8f6d8cffc471d9ac404eac6616331ee5bbccb1a5c43aa59136"), looks := false }, kinds := [], alts := [], laidByText := true, laidKinds := [.data, .data, .data, .data, .listed, .data, .pinned, .pinned], laidTests := true, laidLooks := .later }
def EvalCharsCardSaid : Prop := Claim7.holds Tryz.pinned (.plain (OpenSpec.ofChange evalCharsSpec)) evalCharsCard

/-- THE SECOND FORM's CARD OF 'doppellaw05.CoreGlobals'. -/
def coreGlobalsUptoCard : Claim7 := { stood := { row := coreGlobalsUptoRow, standIns := [], harness := (true, "62268854c61a2c8f6d8cffc471d9ac404eac6616331ee5bbccb1a5c43aa59136"), looks := false }, kinds := [], alts := [], laidByText := true, laidKinds := [.data, .listed, .data, .pinned, .pinned], laidTests := true, laidLooks := .later }
def CoreGlobalsUptoCardSaid : Prop := Claim7.holds Tryz.pinned (.plain (OpenSpec.upto coreGlobalsSpec)) coreGlobalsUptoCard

/-- THE SECOND FORM's CARD OF 'doppellaw05.CoreMains'. -/
def coreMainsUptoCard : Claim7 := { stood := { row := coreMainsUptoRow, standIns := [], harness := (true, "62268854c61a2c8f6d8cffc471d9ac404eac6616331ee5bbccb1a5c43aa59136"), looks := false }, kinds := [], alts := [], laidByText := true, laidKinds := [.data, .listed, .data, .pinned, .pinned], laidTests := true, laidLooks := .later }
def CoreMainsUptoCardSaid : Prop := Claim7.holds Tryz.pinned (.plain (OpenSpec.upto coreMainsSpec)) coreMainsUptoCard

/-- THE SECOND FORM's CARD OF 'doppellaw05.CoreTypes'. -/
def coreTypesUptoCard : Claim7 := { stood := { row := coreTypesUptoRow, standIns := [], harness := (true, "62268854c61a2c8f6d8cffc471d9ac404eac6616331ee5bbccb1a5c43aa59136"), looks := false }, kinds := [], alts := [], laidByText := true, laidKinds := [.data, .listed, .data, .pinned, .pinned], laidTests := true, laidLooks := .later }
def CoreTypesUptoCardSaid : Prop := Claim7.holds Tryz.pinned (.plain (OpenSpec.upto coreTypesSpec)) coreTypesUptoCard

/-- THE SECOND FORM's CARD OF 'doppellaw05.CoreRights'. -/
def coreRightsUptoCard : Claim7 := { stood := { row := coreRightsUptoRow, standIns := [], harness := (true, "62268854c61a2c8f6d8cffc471d9ac404eac6616331ee5bbccb1a5c43aa59136"), looks := false }, kinds := [], alts := [], laidByText := true, laidKinds := [.data, .listed, .data, .pinned, .pinned], laidTests := true, laidLooks := .later }
def CoreRightsUptoCardSaid : Prop := Claim7.holds Tryz.pinned (.plain (OpenSpec.upto coreRightsSpec)) coreRightsUptoCard

/-- THE SECOND FORM's CARD OF 'doppellaw05.CoreNames'. -/
def coreNamesUptoCard : Claim7 := { stood := { row := coreNamesUptoRow, standIns := [], harness := (true, "62268854c61a2c8f6d8cffc471d9ac404eac6616331ee5bbccb1a5c43aa59136"), looks := false }, kinds := [], alts := [], laidByText := true, laidKinds := [.data, .data, .data, .data, .listed, .data, .pinned, .pinned], laidTests := true, laidLooks := .later }
def CoreNamesUptoCardSaid : Prop := Claim7.holds Tryz.pinned (.plain (OpenSpec.upto coreNamesSpec)) coreNamesUptoCard

/-- THE SECOND FORM's CARD OF 'doppellaw06.EvalSorts'. -/
def evalSortsUptoCard : Claim7 := { stood := { row := evalSortsUptoRow, standIns := [], harness := (true, "62268854c61a2c8f6d8cffc471d9ac404eac6616331ee5bbccb1a5c43aa59136"), looks := false }, kinds := [], alts := [], laidByText := true, laidKinds := [.data, .listed, .data, .pinned, .pinned], laidTests := true, laidLooks := .later }
def EvalSortsUptoCardSaid : Prop := Claim7.holds Tryz.pinned (.plain (OpenSpec.upto evalSortsSpec)) evalSortsUptoCard

/-- THE SECOND FORM's CARD OF 'doppellaw06.EvalRows'. -/
def evalRowsUptoCard : Claim7 := { stood := { row := evalRowsUptoRow, standIns := [], harness := (true, "62268854c61a2c8f6d8cffc471d9ac404eac6616331ee5bbccb1a5c43aa59136"), looks := false }, kinds := [], alts := [], laidByText := true, laidKinds := [.data, .listed, .data, .pinned, .pinned], laidTests := true, laidLooks := .later }
def EvalRowsUptoCardSaid : Prop := Claim7.holds Tryz.pinned (.plain (OpenSpec.upto evalRowsSpec)) evalRowsUptoCard

/-- THE SECOND FORM's CARD OF 'doppellaw06.EvalPrograms'. -/
def evalProgramsUptoCard : Claim7 := { stood := { row := evalProgramsUptoRow, standIns := [], harness := (true, "62268854c61a2c8f6d8cffc471d9ac404eac6616331ee5bbccb1a5c43aa59136"), looks := false }, kinds := [], alts := [], laidByText := true, laidKinds := [.data, .listed, .data, .pinned, .pinned], laidTests := true, laidLooks := .later }
def EvalProgramsUptoCardSaid : Prop := Claim7.holds Tryz.pinned (.plain (OpenSpec.upto evalProgramsSpec)) evalProgramsUptoCard

/-- THE SECOND FORM's CARD OF 'doppellaw06.EvalFuel'. -/
def evalFuelUptoCard : Claim7 := { stood := { row := evalFuelUptoRow, standIns := [], harness := (true, "62268854c61a2c8f6d8cffc471d9ac404eac6616331ee5bbccb1a5c43aa59136"), looks := false }, kinds := [], alts := [], laidByText := true, laidKinds := [.data, .listed, .data, .pinned, .pinned], laidTests := true, laidLooks := .later }
def EvalFuelUptoCardSaid : Prop := Claim7.holds Tryz.pinned (.plain (OpenSpec.upto evalFuelSpec)) evalFuelUptoCard

/-- THE SECOND FORM's CARD OF 'doppellaw06.EvalWords'. -/
def evalWordsUptoCard : Claim7 := { stood := { row := evalWordsUptoRow, standIns := [], harness := (true, "62268854c61a2c8f6d8cffc471d9ac404eac6616331ee5bbccb1a5c43aa59136"), looks := false }, kinds := [], alts := [], laidByText := true, laidKinds := [.data, .listed, .data, .pinned, .pinned], laidTests := true, laidLooks := .later }
def EvalWordsUptoCardSaid : Prop := Claim7.holds Tryz.pinned (.plain (OpenSpec.upto evalWordsSpec)) evalWordsUptoCard

/-- THE SECOND FORM's CARD OF 'doppellaw06.EvalEchoes'. -/
def evalEchoesUptoCard : Claim7 := { stood := { row := evalEchoesUptoRow, standIns := [], harness := (true, "62268854c61a2c8f6d8cffc471d9ac404eac6616331ee5bbccb1a5c43aa59136"), looks := false }, kinds := [], alts := [], laidByText := true, laidKinds := [.data, .data, .data, .data, .listed, .data, .pinned, .pinned], laidTests := true, laidLooks := .later }
def EvalEchoesUptoCardSaid : Prop := Claim7.holds Tryz.pinned (.plain (OpenSpec.upto evalEchoesSpec)) evalEchoesUptoCard

/-- THE SECOND FORM's CARD OF 'doppellaw06.EvalAddresses'. -/
def evalAddressesUptoCard : Claim7 := { stood := { row := evalAddressesUptoRow, standIns := [], harness := (true, "62268854c61a2c8f6d8cffc471d9ac404eac6616331ee5bbccb1a5c43aa59136"), looks := false }, kinds := [], alts := [], laidByText := true, laidKinds := [.data, .data, .data, .data, .listed, .data, .pinned, .pinned], laidTests := true, laidLooks := .later }
def EvalAddressesUptoCardSaid : Prop := Claim7.holds Tryz.pinned (.plain (OpenSpec.upto evalAddressesSpec)) evalAddressesUptoCard

/-- THE SECOND FORM's CARD OF 'doppellaw06.EvalLoops'. -/
def evalLoopsUptoCard : Claim7 := { stood := { row := evalLoopsUptoRow, standIns := [], harness := (true, "62268854c61a2c8f6d8cffc471d9ac404eac6616331ee5bbccb1a5c43aa59136"), looks := false }, kinds := [], alts := [], laidByText := true, laidKinds := [.data, .data, .data, .data, .listed, .data, .pinned, .pinned], laidTests := true, laidLooks := .later }
def EvalLoopsUptoCardSaid : Prop := Claim7.holds Tryz.pinned (.plain (OpenSpec.upto evalLoopsSpec)) evalLoopsUptoCard

/-- THE SECOND FORM's CARD OF 'doppellaw06.EvalChars'. -/
def evalCharsUptoCard : Claim7 := { stood := { row := evalCharsUptoRow, standIns := [], harness := (true, "62268854c61a2c8f6d8cffc471d9ac404eac6616331ee5bbccb1a5c43aa59136"), looks := false }, kinds := [], alts := [], laidByText := true, laidKinds := [.data, .data, .data, .data, .listed, .data, .pinned, .pinned], laidTests := true, laidLooks := .later }
def EvalCharsUptoCardSaid : Prop := Claim7.holds Tryz.pinned (.plain (OpenSpec.upto evalCharsSpec)) evalCharsUptoCard
end Rows
end Go.Proofs.YtkpggdcpaeanaaaGreatDoor
