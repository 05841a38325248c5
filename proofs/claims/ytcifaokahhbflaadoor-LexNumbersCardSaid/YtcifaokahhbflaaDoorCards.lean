/-
  DERIVED. GIVEN WITH THE SEED: THE CARDS: each row of YtcifaokahhbflaaDoorRows.lean that lists a variable, with what it lists TIED to the program's text (the seventh form; the later family's looks); each row that meets fmt, with fmt's text TOLD by the authors' own Lean function (tested against real Go, not proved from fmt's source: count such statements apart). THE CARD IS WHAT COUNTS. Prove the row's statement (the work); the ties are given (YtcifaokahhbflaaDoorTie.lean); close each card by the builder's one call (the guide's Derived/Test/ToyasCard.lean, 'card_holds'). Laid BY PROGRAM, IN A SANDBOX (cutbox-door.mjs). By AI agents, Wed Nov 11 2026. No macro, syntax, notation, axiom, sorry.
-/
import Derived.Test.YtcifaokahhbflaaDoorRows
import GoSem.ClaimSeven
namespace Go.Proofs.YtcifaokahhbflaaDoor
namespace Rows

/-- THE TIED CARD OF 'doppellaw02.LexScans'. -/
def lexScansCard : Claim7 := { stood := { row := lexScansRow, standIns := [], harness := (true, "6f83d026ce2500ab10967a6db933fcb2510cc37db35e26edaf5cd6e033420317"), looks := false }, kinds := [], alts := [], laidByText := true, laidKinds := [.data, .listed, .data, .pinned, .pinned], laidTests := true, laidLooks := .later }
def LexScansCardSaid : Prop := Claim7.holds Tryd.pinned (.plain (OpenSpec.ofChange lexScansSpec)) lexScansCard

/-- THE TIED CARD OF 'doppellaw02.LexWords'. -/
def lexWordsCard : Claim7 := { stood := { row := lexWordsRow, standIns := [], harness := (true, "6f83d026ce2500ab10967a6db933fcb2510cc37db35e26edaf5cd6e033420317"), looks := false }, kinds := [], alts := [], laidByText := true, laidKinds := [.data, .listed, .data, .pinned, .pinned], laidTests := true, laidLooks := .later }
def LexWordsCardSaid : Prop := Claim7.holds Tryd.pinned (.plain (OpenSpec.ofChange lexWordsSpec)) lexWordsCard

/-- THE TIED CARD OF 'doppellaw02.LexAgain'. -/
def lexAgainCard : Claim7 := { stood := { row := lexAgainRow, standIns := [], harness := (true, "6f83d026ce2500ab10967a6db933fcb2510cc37db35e26edaf5cd6e033420317"), looks := false }, kinds := [], alts := [], laidByText := true, laidKinds := [.data, .listed, .data, .pinned, .pinned], laidTests := true, laidLooks := .later }
def LexAgainCardSaid : Prop := Claim7.holds Tryd.pinned (.plain (OpenSpec.ofChange lexAgainSpec)) lexAgainCard

/-- THE TIED CARD OF 'doppellaw02.LexPlaces'. -/
def lexPlacesCard : Claim7 := { stood := { row := lexPlacesRow, standIns := [], harness := (true, "6f83d026ce2500ab10967a6db933fcb2510cc37db35e26edaf5cd6e033420317"), looks := false }, kinds := [], alts := [], laidByText := true, laidKinds := [.data, .listed, .data, .pinned, .pinned], laidTests := true, laidLooks := .later }
def LexPlacesCardSaid : Prop := Claim7.holds Tryd.pinned (.plain (OpenSpec.ofChange lexPlacesSpec)) lexPlacesCard

/-- THE TIED CARD OF 'doppellaw02.LexSpaces'. -/
def lexSpacesCard : Claim7 := { stood := { row := lexSpacesRow, standIns := [], harness := (true, "6f83d026ce2500ab10967a6db933fcb2510cc37db35e26edaf5cd6e033420317"), looks := false }, kinds := [], alts := [], laidByText := true, laidKinds := [.data, .listed, .data, .pinned, .pinned], laidTests := true, laidLooks := .later }
def LexSpacesCardSaid : Prop := Claim7.holds Tryd.pinned (.plain (OpenSpec.ofChange lexSpacesSpec)) lexSpacesCard

/-- THE TIED CARD OF 'doppellaw02.LexBytes'. -/
def lexBytesCard : Claim7 := { stood := { row := lexBytesRow, standIns := [], harness := (true, "6f83d026ce2500ab10967a6db933fcb2510cc37db35e26edaf5cd6e033420317"), looks := false }, kinds := [], alts := [], laidByText := true, laidKinds := [.data, .listed, .data, .pinned, .pinned], laidTests := true, laidLooks := .later }
def LexBytesCardSaid : Prop := Claim7.holds Tryd.pinned (.plain (OpenSpec.ofChange lexBytesSpec)) lexBytesCard

/-- THE TIED CARD OF 'doppellaw02.LexNumbers'. -/
def lexNumbersCard : Claim7 := { stood := { row := lexNumbersRow, standIns := [], harness := (true, "6f83d026ce2500ab10967a6db933fcb2510cc37db35e26edaf5cd6e033420317"), looks := false }, kinds := [], alts := [], laidByText := true, laidKinds := [.data, .data, .data, .data, .listed, .data, .pinned, .pinned], laidTests := true, laidLooks := .later }
def LexNumbersCardSaid : Prop := Claim7.holds Tryd.pinned (.plain (OpenSpec.ofChange lexNumbersSpec)) lexNumbersCard

/-- THE SECOND FORM's CARD OF 'doppellaw02.LexScans'. -/
def lexScansUptoCard : Claim7 := { stood := { row := lexScansUptoRow, standIns := [], harness := (true, "6f83d026ce2500ab10967a6db933fcb2510cc37db35e26edaf5cd6e033420317"), looks := false }, kinds := [], alts := [], laidByText := true, laidKinds := [.data, .listed, .data, .pinned, .pinned], laidTests := true, laidLooks := .later }
def LexScansUptoCardSaid : Prop := Claim7.holds Tryd.pinned (.plain (OpenSpec.upto lexScansSpec)) lexScansUptoCard

/-- THE SECOND FORM's CARD OF 'doppellaw02.LexWords'. -/
def lexWordsUptoCard : Claim7 := { stood := { row := lexWordsUptoRow, standIns := [], harness := (true, "6f83d026ce2500ab10967a6db933fcb2510cc37db35e26edaf5cd6e033420317"), looks := false }, kinds := [], alts := [], laidByText := true, laidKinds := [.data, .listed, .data, .pinned, .pinned], laidTests := true, laidLooks := .later }
def LexWordsUptoCardSaid : Prop := Claim7.holds Tryd.pinned (.plain (OpenSpec.upto lexWordsSpec)) lexWordsUptoCard

/-- THE SECOND FORM's CARD OF 'doppellaw02.LexAgain'. -/
def lexAgainUptoCard : Claim7 := { stood := { row := lexAgainUptoRow, standIns := [], harness := (true, "6f83d026ce2500ab10967a6db933fcb2510cc37db35e26edaf5cd6e033420317"), looks := false }, kinds := [], alts := [], laidByText := true, laidKinds := [.data, .listed, .data, .pinned, .pinned], laidTests := true, laidLooks := .later }
def LexAgainUptoCardSaid : Prop := Claim7.holds Tryd.pinned (.plain (OpenSpec.upto lexAgainSpec)) lexAgainUptoCard

/-- THE SECOND FORM's CARD OF 'doppellaw02.LexPlaces'. -/
def lexPlacesUptoCard : Claim7 := { stood := { row := lexPlacesUptoRow, standIns := [], harness := (true, "6f83d026ce2500ab10967a6db933fcb2510cc37db35e26edaf5cd6e033420317"), looks := false }, kinds := [], alts := [], laidByText := true, laidKinds := [.data, .listed, .data, .pinned, .pinned], laidTests := true, laidLooks := .later }
def LexPlacesUptoCardSaid : Prop := Claim7.holds Tryd.pinned (.plain (OpenSpec.upto lexPlacesSpec)) lexPlacesUptoCard

/-- THE SECOND FORM's CARD OF 'doppellaw02.LexSpaces'. -/
def lexSpacesUptoCard : Claim7 := { stood := { row := lexSpacesUptoRow, standIns := [], harness := (true, "6f83d026ce2500ab10967a6db933fcb2510cc37db35e26edaf5cd6e033420317"), looks := false }, kinds := [], alts := [], laidByText := true, laidKinds := [.data, .listed, .data, .pinned, .pinned], laidTests := true, laidLooks := .later }
def LexSpacesUptoCardSaid : Prop := Claim7.holds Tryd.pinned (.plain (OpenSpec.upto lexSpacesSpec)) lexSpacesUptoCard

/-- THE SECOND FORM's CARD OF 'doppellaw02.LexBytes'. -/
def lexBytesUptoCard : Claim7 := { stood := { row := lexBytesUptoRow, standIns := [], harness := (true, "6f83d026ce2500ab10967a6db933fcb2510cc37db35e26edaf5cd6e033420317"), looks := false }, kinds := [], alts := [], laidByText := true, laidKinds := [.data, .listed, .data, .pinned, .pinned], laidTests := true, laidLooks := .later }
def LexBytesUptoCardSaid : Prop := Claim7.holds Tryd.pinned (.plain (OpenSpec.upto lexBytesSpec)) lexBytesUptoCard

/-- THE SECOND FORM's CARD OF 'doppellaw02.LexNumbers'. -/
def lexNumbersUptoCard : Claim7 := { stood := { row := lexNumbersUptoRow, standIns := [], harness := (true, "6f83d026ce2500ab10967a6db933fcb2510cc37db35e26edaf5cd6e033420317"), looks := false }, kinds := [], alts := [], laidByText := true, laidKinds := [.data, .data, .data, .data, .listed, .data, .pinned, .pinned], laidTests := true, laidLooks := .later }
def LexNumbersUptoCardSaid : Prop := Claim7.holds Tryd.pinned (.plain (OpenSpec.upto lexNumbersSpec)) lexNumbersUptoCard
end Rows
end Go.Proofs.YtcifaokahhbflaaDoor
