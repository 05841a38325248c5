/-
  DERIVED. GIVEN WITH THE SEED: THE CARDS: each row of YtpjjpcgnogpdmaaDoorRows.lean that lists a variable, with what it lists TIED to the program's text (the seventh form; the later family's looks); each row that meets fmt, with fmt's text TOLD by the authors' own Lean function (tested against real Go, not proved from fmt's source: count such statements apart). THE CARD IS WHAT COUNTS. Prove the row's statement (the work); the ties are given (YtpjjpcgnogpdmaaDoorTie.lean); close each card by the builder's one call (the guide's Derived/Test/ToyasCard.lean, 'card_holds'). Laid BY PROGRAM, IN A SANDBOX (cutbox-door.mjs). By AI agents, Wed Nov 11 2026. No macro, syntax, notation, axiom, sorry.
-/
import Derived.Test.YtpjjpcgnogpdmaaDoorRows
import GoSem.ClaimSeven
namespace Go.Proofs.YtpjjpcgnogpdmaaDoor
namespace Rows

/-- THE TIED CARD OF 'doppellaw17.TermTruths'. -/
def termTruthsCard : Claim7 := { stood := { row := termTruthsRow, standIns := [], harness := (true, "b944218cae553cc84dd69b2a7b9e06dd3b82b82f3d0ddcff2bd56816af9f63b9"), looks := false }, kinds := [], alts := [], laidByText := true, laidKinds := [.data, .data, .data, .data, .listed, .data, .pinned, .pinned, .pinned, .pinned, .pinned, .pinned], laidTests := true, laidLooks := .later }
def TermTruthsCardSaid : Prop := Claim7.holds Tryd.pinned (.plain (OpenSpec.ofChange termTruthsSpec)) termTruthsCard

/-- THE TIED CARD OF 'doppellaw17.TermNames'. -/
def termNamesCard : Claim7 := { stood := { row := termNamesRow, standIns := [], harness := (true, "b944218cae553cc84dd69b2a7b9e06dd3b82b82f3d0ddcff2bd56816af9f63b9"), looks := false }, kinds := [], alts := [], laidByText := true, laidKinds := [.data, .data, .data, .data, .listed, .data, .pinned, .pinned, .pinned, .pinned, .pinned, .pinned], laidTests := true, laidLooks := .later }
def TermNamesCardSaid : Prop := Claim7.holds Tryd.pinned (.plain (OpenSpec.ofChange termNamesSpec)) termNamesCard

/-- THE SECOND FORM's CARD OF 'doppellaw17.TermTruths'. -/
def termTruthsUptoCard : Claim7 := { stood := { row := termTruthsUptoRow, standIns := [], harness := (true, "b944218cae553cc84dd69b2a7b9e06dd3b82b82f3d0ddcff2bd56816af9f63b9"), looks := false }, kinds := [], alts := [], laidByText := true, laidKinds := [.data, .data, .data, .data, .listed, .data, .pinned, .pinned, .pinned, .pinned, .pinned, .pinned], laidTests := true, laidLooks := .later }
def TermTruthsUptoCardSaid : Prop := Claim7.holds Tryd.pinned (.plain (OpenSpec.upto termTruthsSpec)) termTruthsUptoCard

/-- THE SECOND FORM's CARD OF 'doppellaw17.TermNames'. -/
def termNamesUptoCard : Claim7 := { stood := { row := termNamesUptoRow, standIns := [], harness := (true, "b944218cae553cc84dd69b2a7b9e06dd3b82b82f3d0ddcff2bd56816af9f63b9"), looks := false }, kinds := [], alts := [], laidByText := true, laidKinds := [.data, .data, .data, .data, .listed, .data, .pinned, .pinned, .pinned, .pinned, .pinned, .pinned], laidTests := true, laidLooks := .later }
def TermNamesUptoCardSaid : Prop := Claim7.holds Tryd.pinned (.plain (OpenSpec.upto termNamesSpec)) termNamesUptoCard
end Rows
end Go.Proofs.YtpjjpcgnogpdmaaDoor
