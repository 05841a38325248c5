/-
 What the program's tables are, all the while.
-/
import Derived.Test.YtkpokomghbhadaaDoorProg
import Derived.Test.YtkpokomghbhadaaDoorSh
namespace Go.En.Dop
open Go Go.Proofs
def L04 (w : World) : Prop := Lib.TabIs Tryd.prog w "strings.asciiSpace" .u8 Lib.asciiSpaceTab ∧ ∃ m, w.cell? ⟨0, 0, none⟩ = some (.int .i64 m)
end Go.En.Dop
