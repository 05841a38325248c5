/-
  DERIVED. GIVEN WITH THE SEED: THE CARDS: each row of YtkpokomghbhadaaGreatDoorRows.lean that lists a variable, with what it lists TIED to the program's text (the seventh form; the later family's looks); each row that meets fmt, with fmt's text TOLD by the authors' own Lean function (tested against real Go, not proved from fmt's source: count such statements apart). THE CARD IS WHAT COUNTS. Prove the row's statement (the work); the ties are given (YtkpokomghbhadaaGreatDoorTie.lean); close each card by the builder's one call (the guide's Derived/Test/ToyasCard.lean, 'card_holds'). Laid BY PROGRAM, IN A SANDBOX (cutbox-door.mjs). By AI agents, Wed Nov 11 2026. No macro, syntax, notation, axiom, sorry.
-/
import Derived.Test.YtkpokomghbhadaaGreatDoorRows
import GoSem.ClaimSeven
namespace Go.Proofs.YtkpokomghbhadaaGreatDoor
namespace Rows

/-- THE TIED CARD OF 'doppellaw04.TreeLists'. -/
def treeListsCard : Claim7 := { stood := { row := treeListsRow, standIns := [], harness := (true, "dfa3e0e4b99a8e60b4fe067f8a820cebad5ab46eb4af29c1e685f62e81975e1d"), looks := false }, kinds := [], alts := [], laidByText := true, laidKinds := [.data, .listed, .data, .pinned, .pinned], laidTests := true, laidLooks := .later }
def TreeListsCardSaid : Prop := Claim7.holds Tryz.pinned (.plain (OpenSpec.ofChange treeListsSpec)) treeListsCard

/-- THE TIED CARD OF 'doppellaw04.TreeTypes'. -/
def treeTypesCard : Claim7 := { stood := { row := treeTypesRow, standIns := [], harness := (true, "dfa3e0e4b99a8e60b4fe067f8a820cebad5ab46eb4af29c1e685f62e81975e1d"), looks := false }, kinds := [], alts := [], laidByText := true, laidKinds := [.data, .data, .data, .data, .listed, .data, .pinned, .pinned], laidTests := true, laidLooks := .later }
def TreeTypesCardSaid : Prop := Claim7.holds Tryz.pinned (.plain (OpenSpec.ofChange treeTypesSpec)) treeTypesCard

/-- THE TIED CARD OF 'doppellaw04.TreePrints'. -/
def treePrintsCard : Claim7 := { stood := { row := treePrintsRow, standIns := [], harness := (true, "dfa3e0e4b99a8e60b4fe067f8a820cebad5ab46eb4af29c1e685f62e81975e1d"), looks := false }, kinds := [], alts := [], laidByText := true, laidKinds := [.data, .data, .data, .data, .listed, .data, .pinned, .pinned], laidTests := true, laidLooks := .later }
def TreePrintsCardSaid : Prop := Claim7.holds Tryz.pinned (.plain (OpenSpec.ofChange treePrintsSpec)) treePrintsCard

/-- THE SECOND FORM's CARD OF 'doppellaw04.TreeLists'. -/
def treeListsUptoCard : Claim7 := { stood := { row := treeListsUptoRow, standIns := [], harness := (true, "dfa3e0e4b99a8e60b4fe067f8a820cebad5ab46eb4af29c1e685f62e81975e1d"), looks := false }, kinds := [], alts := [], laidByText := true, laidKinds := [.data, .listed, .data, .pinned, .pinned], laidTests := true, laidLooks := .later }
def TreeListsUptoCardSaid : Prop := Claim7.holds Tryz.pinned (.plain (OpenSpec.upto treeListsSpec)) treeListsUptoCard

/-- THE SECOND FORM's CARD OF 'doppellaw04.TreeTypes'. -/
def treeTypesUptoCard : Claim7 := { stood := { row := treeTypesUptoRow, standIns := [], harness := (true, "dfa3e0e4b99a8e60b4fe067f8a820cebad5ab46eb4af29c1e685f62e81975e1d"), looks := false }, kinds := [], alts := [], laidByText := true, laidKinds := [.data, .data, .data, .data, .listed, .data, .pinned, .pinned], laidTests := true, laidLooks := .later }
def TreeTypesUptoCardSaid : Prop := Claim7.holds Tryz.pinned (.plain (OpenSpec.upto treeTypesSpec)) treeTypesUptoCard

/-- THE SECOND FORM's CARD OF 'doppellaw04.TreePrints'. -/
def treePrintsUptoCard : Claim7 := { stood := { row := treePrintsUptoRow, standIns := [], harness := (true, "dfa3e0e4b99a8e60b4fe067f8a820cebad5ab46eb4af29c1e685f62e81975e1d"), looks := false }, kinds := [], alts := [], laidByText := true, laidKinds := [.data, .data, .data, .data, .listed, .data, .pinned, .pinned], laidTests := true, laidLooks := .later }
def TreePrintsUptoCardSaid : Prop := Claim7.holds Tryz.pinned (.plain (OpenSpec.upto treePrintsSpec)) treePrintsUptoCard
end Rows
end Go.Proofs.YtkpokomghbhadaaGreatDoor
