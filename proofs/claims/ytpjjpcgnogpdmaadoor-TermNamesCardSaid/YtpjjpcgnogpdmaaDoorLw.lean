/-
  What the program's tables are, all the while.
-/
import Derived.Test.YtpjjpcgnogpdmaaDoorProg
import Derived.Test.YtpjjpcgnogpdmaaDoorKq
import Derived.Lib.PrintData
import Derived.Lib.LaidTab
import Derived.Lib.QuoteLoop
import Derived.Lib.Tables
import Derived.Shelf.Unicode.DecodeSlow
import Derived.Lib.Space
namespace Go.En.Dop
open Go Go.Proofs
/-- The library's tables are as their text lays them. -/
def L17 (w : World) : Prop := Lib.TabIs Tryd.prog w "internal/strconv.uint64pow10" .u64 Lib.pow10Tab ∧ Lib.PrintTabsAt 5 6 7 8 Lib.goPrintTabs w ∧ Lib.Utf8Tabs 3 4 w ∧ Lib.TabIs Tryd.prog w "strings.asciiSpace" .u8 Lib.asciiSpaceTab
end Go.En.Dop
