/-
  What the program's tables are, all the while.
-/
import Derived.Test.YtcifaokahhbflaaDoorProg
import Derived.Test.YtcifaokahhbflaaDoorSh
namespace Go.En.Dop
open Go Go.Proofs
/-- The library's tables are as their text lays them; and what the library asks of a machine is some number. -/
def L02 (w : World) : Prop := Lib.TabIs Tryd.prog w "strings.asciiSpace" .u8 Lib.asciiSpaceTab ∧ (∃ m, w.cell? ⟨3, 0, none⟩ = some (.int .i64 m)) ∧ Lib.TabIs Tryd.prog w "internal/strconv.uint64pow10" .u64 Lib.pow10Tab ∧ w.cell? ⟨5, 15, none⟩ = some (.int .u8 4)
end Go.En.Dop
