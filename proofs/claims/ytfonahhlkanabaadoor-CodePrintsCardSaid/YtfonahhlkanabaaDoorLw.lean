/-
  What the program's tables are, all the while.
-/
import Derived.Test.YtfonahhlkanabaaDoorProg
import Derived.Test.YtfonahhlkanabaaDoorQt
import Derived.Lib.PrintData
import Derived.Lib.LaidTab
import Derived.Shelf.Strconv.Quote
import Derived.Shelf.Strconv.Itoa3
namespace Go.En.Dop
open Go Go.Proofs
/-- The library's tables are as their text lays them. -/
def L7 (w : World) : Prop := Lib.TabIs Tryd.prog w "internal/strconv.uint64pow10" .u64 Lib.pow10Tab ∧ Lib.PrintTabsAt 4 5 6 7 Lib.goPrintTabs w ∧ Lib.Utf8Tabs 2 3 w
end Go.En.Dop
