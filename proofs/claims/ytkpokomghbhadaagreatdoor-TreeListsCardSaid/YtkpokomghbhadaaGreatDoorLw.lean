/-
 What the program's tables are, all the while.
-/
import Derived.Test.YtkpokomghbhadaaGreatDoorProg
import Derived.Test.YtkpokomghbhadaaGreatDoorSh
import Derived.Lib.LaidTab
namespace Go.En.Dop
open Go Go.Proofs
def Pow (_ : World) : Prop := True
def L04 (w : World) : Prop := Lib.TabIs Tryz.prog w "strings.asciiSpace" .u8 Lib.asciiSpaceTab ∧ Pow w ∧ ∃ m,w.cell? ⟨0,0,none⟩ = some (.int .i64 m)
end Go.En.Dop
