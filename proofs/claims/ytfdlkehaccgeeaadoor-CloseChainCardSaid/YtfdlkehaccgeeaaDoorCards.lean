/-
  DERIVED. GIVEN WITH THE SEED: THE CARDS: each row of YtfdlkehaccgeeaaDoorRows.lean that lists a variable, with what it lists TIED to the program's text (the seventh form; the later family's looks); each row that meets fmt, with fmt's text TOLD by the authors' own Lean function (tested against real Go, not proved from fmt's source: count such statements apart). THE CARD IS WHAT COUNTS. Prove the row's statement (the work); the ties are given (YtfdlkehaccgeeaaDoorTie.lean); close each card by the builder's one call (the guide's Derived/Test/ToyasCard.lean, 'card_holds'). Laid BY PROGRAM, IN A SANDBOX (cutbox-door.mjs). By AI agents, Wed Nov 11 2026. No macro, syntax, notation, axiom, sorry.
-/
import Derived.Test.YtfdlkehaccgeeaaDoorRows
import GoSem.ClaimSeven
namespace Go.Proofs.YtfdlkehaccgeeaaDoor
namespace Rows

/-- THE TIED CARD OF 'doppellaw18.CloseClasses'. -/
def closeClassesCard : Claim7 := { stood := { row := closeClassesRow, standIns := [], harness := (true, "2b61129c962f0fd17f4dc1480e9014f2cc7db150c0103c878abf91d1fa34b098"), looks := false }, kinds := [], alts := [], laidByText := true, laidKinds := [.data, .data, .data, .data, .pinned, .pinned, .pinned, .pinned, .pinned, .pinned], laidTests := true, laidLooks := .later }
def CloseClassesCardSaid : Prop := Claim7.holds Tryd.pinned (.plain (OpenSpec.ofChange closeClassesSpec)) closeClassesCard

/-- THE TIED CARD OF 'doppellaw18.CloseMore'. -/
def closeMoreCard : Claim7 := { stood := { row := closeMoreRow, standIns := [], harness := (true, "2b61129c962f0fd17f4dc1480e9014f2cc7db150c0103c878abf91d1fa34b098"), looks := false }, kinds := [], alts := [], laidByText := true, laidKinds := [.data, .data, .data, .data, .pinned, .pinned, .pinned, .pinned, .pinned, .pinned], laidTests := true, laidLooks := .later }
def CloseMoreCardSaid : Prop := Claim7.holds Tryd.pinned (.plain (OpenSpec.ofChange closeMoreSpec)) closeMoreCard

/-- THE TIED CARD OF 'doppellaw18.CloseHolds'. -/
def closeHoldsCard : Claim7 := { stood := { row := closeHoldsRow, standIns := [], harness := (true, "2b61129c962f0fd17f4dc1480e9014f2cc7db150c0103c878abf91d1fa34b098"), looks := false }, kinds := [], alts := [], laidByText := true, laidKinds := [.data, .data, .data, .data, .pinned, .pinned, .pinned, .pinned, .pinned, .pinned], laidTests := true, laidLooks := .later }
def CloseHoldsCardSaid : Prop := Claim7.holds Tryd.pinned (.plain (OpenSpec.ofChange closeHoldsSpec)) closeHoldsCard

/-- THE TIED CARD OF 'doppellaw18.CloseChain'. -/
def closeChainCard : Claim7 := { stood := { row := closeChainRow, standIns := [], harness := (true, "2b61129c962f0fd17f4dc1480e9014f2cc7db150c0103c878abf91d1fa34b098"), looks := false }, kinds := [], alts := [], laidByText := true, laidKinds := [.data, .data, .data, .data, .pinned, .pinned, .pinned, .pinned, .pinned, .pinned], laidTests := true, laidLooks := .later }
def CloseChainCardSaid : Prop := Claim7.holds Tryd.pinned (.plain (OpenSpec.ofChange closeChainSpec)) closeChainCard

/-- THE TIED CARD OF 'doppellaw18.CloseOrder'. -/
def closeOrderCard : Claim7 := { stood := { row := closeOrderRow, standIns := [], harness := (true, "2b61129c962f0fd17f4dc1480e9014f2cc7db150c0103c878abf91d1fa34b098"), looks := false }, kinds := [], alts := [], laidByText := true, laidKinds := [.data, .data, .data, .data, .pinned, .pinned, .pinned, .pinned, .pinned, .pinned], laidTests := true, laidLooks := .later }
def CloseOrderCardSaid : Prop := Claim7.holds Tryd.pinned (.plain (OpenSpec.ofChange closeOrderSpec)) closeOrderCard

/-- THE SECOND FORM's CARD OF 'doppellaw18.CloseClasses'. -/
def closeClassesUptoCard : Claim7 := { stood := { row := closeClassesUptoRow, standIns := [], harness := (true, "2b61129c962f0fd17f4dc1480e9014f2cc7db150c0103c878abf91d1fa34b098"), looks := false }, kinds := [], alts := [], laidByText := true, laidKinds := [.data, .data, .data, .data, .pinned, .pinned, .pinned, .pinned, .pinned, .pinned], laidTests := true, laidLooks := .later }
def CloseClassesUptoCardSaid : Prop := Claim7.holds Tryd.pinned (.plain (OpenSpec.upto closeClassesSpec)) closeClassesUptoCard

/-- THE SECOND FORM's CARD OF 'doppellaw18.CloseMore'. -/
def closeMoreUptoCard : Claim7 := { stood := { row := closeMoreUptoRow, standIns := [], harness := (true, "2b61129c962f0fd17f4dc1480e9014f2cc7db150c0103c878abf91d1fa34b098"), looks := false }, kinds := [], alts := [], laidByText := true, laidKinds := [.data, .data, .data, .data, .pinned, .pinned, .pinned, .pinned, .pinned, .pinned], laidTests := true, laidLooks := .later }
def CloseMoreUptoCardSaid : Prop := Claim7.holds Tryd.pinned (.plain (OpenSpec.upto closeMoreSpec)) closeMoreUptoCard

/-- THE SECOND FORM's CARD OF 'doppellaw18.CloseHolds'. -/
def closeHoldsUptoCard : Claim7 := { stood := { row := closeHoldsUptoRow, standIns := [], harness := (true, "2b61129c962f0fd17f4dc1480e9014f2cc7db150c0103c878abf91d1fa34b098"), looks := false }, kinds := [], alts := [], laidByText := true, laidKinds := [.data, .data, .data, .data, .pinned, .pinned, .pinned, .pinned, .pinned, .pinned], laidTests := true, laidLooks := .later }
def CloseHoldsUptoCardSaid : Prop := Claim7.holds Tryd.pinned (.plain (OpenSpec.upto closeHoldsSpec)) closeHoldsUptoCard

/-- THE SECOND FORM's CARD OF 'doppellaw18.CloseChain'. -/
def closeChainUptoCard : Claim7 := { stood := { row := closeChainUptoRow, standIns := [], harness := (true, "2b61129c962f0fd17f4dc1480e9014f2cc7db150c0103c878abf91d1fa34b098"), looks := false }, kinds := [], alts := [], laidByText := true, laidKinds := [.data, .data, .data, .data, .pinned, .pinned, .pinned, .pinned, .pinned, .pinned], laidTests := true, laidLooks := .later }
def CloseChainUptoCardSaid : Prop := Claim7.holds Tryd.pinned (.plain (OpenSpec.upto closeChainSpec)) closeChainUptoCard

/-- THE SECOND FORM's CARD OF 'doppellaw18.CloseOrder'. -/
def closeOrderUptoCard : Claim7 := { stood := { row := closeOrderUptoRow, standIns := [], harness := (true, "2b61129c962f0fd17f4dc1480e9014f2cc7db150c0103c878abf91d1fa34b098"), looks := false }, kinds := [], alts := [], laidByText := true, laidKinds := [.data, .data, .data, .data, .pinned, .pinned, .pinned, .pinned, .pinned, .pinned], laidTests := true, laidLooks := .later }
def CloseOrderUptoCardSaid : Prop := Claim7.holds Tryd.pinned (.plain (OpenSpec.upto closeOrderSpec)) closeOrderUptoCard
end Rows
end Go.Proofs.YtfdlkehaccgeeaaDoor
