/-
  The library's functions that are called, as contracts.
-/
import Derived.Test.YtfdlkehaccgeeaaDoorDat
import Derived.Test.YtfdlkehaccgeeaaDoorEnL
import Derived.Test.YtfdlkehaccgeeaaDoorSh
namespace Go.Proofs
open Go Go.En Go.RowKit
theorem tab_below {P : Program} {n : String} {g : Nat} {k : IntKind} {zs : List Int} {w w' : World} (hg : P.globalNamed n = some g) (h : Lib.TabIs P w n k zs) (hb : Below w.heap.size w w') : Lib.TabIs P w' n k zs := by
  unfold Lib.TabIs at h ⊢
  unfold World.var? at h ⊢
  rw [hg] at h ⊢
  have hlt : g < w.heap.size := by
    apply Classical.byContradiction
    intro hn
    simp [Array.getElem?_eq_none (Nat.le_of_not_lt hn)] at h
  simpa [hb.block g hlt] using h
theorem Dop_inv {D : Nat → Prop} {w : World} (h : En.Dop.D18.inv D w) : En.Dop.L18 w := by
  obtain ⟨W0, ⟨h1, h2, h3⟩, h4⟩ := Sits.below (L := En.Dop.L18) h
  have k1 : Lib.TabIs Tryd.prog { w with heap := W0.heap } "internal/strconv.uint64pow10" .u64 Lib.pow10Tab := h1
  have k2 : Lib.PrintTabsAt 3 4 5 6 Lib.goPrintTabs { w with heap := W0.heap } := h2
  have k3 : Lib.Utf8Tabs 1 2 { w with heap := W0.heap } := h3
  exact ⟨tab_below (g := 0) (by kernel_rfl) k1 h4, printTabs_below k2 h4, Utf8Tabs_below k3 h4⟩
/-- Is there room for a quoted text? -/
def okQ (l : List UInt8) : Bool := decide (10 * l.length + 12 ≤ 140737488355328)
def inI (n : Int) : Bool := decide (-9223372036854775808 ≤ n ∧ n ≤ 9223372036854775807)
def Tryd.quote.c : Ctr En.Dop.D18 := ⟨19, 0, ⟨[.fd .str], []⟩, ⟨[.fd .str], []⟩, true, .pre (fun x => okQ x.1.1) fun x => ((Law.quoteL Lib.goPrintTabs x.1.1, ()), ())⟩
theorem Tryd.quote.holds : Tryd.quote.c.Holds Tryd.prog :=
  lib_s_s (by kernel_rfl) fun a w D hp hiv => by
    obtain ⟨_, h2, h3⟩ := Dop_inv hiv
    have hp' : 10 * a.length + 12 ≤ 140737488355328 := of_decide_eq_true hp
    refine (Tryd.strconv_Quote Lib.goPrintTabs ⟨⟨a⟩⟩ w hp' h2 h3).mono fun e w' ⟨h4, h5⟩ => ⟨h4, h5⟩
def Tryd.itoa.c : Ctr En.Dop.D18 := ⟨20, 0, ⟨[.fd (.int .i64)], []⟩, ⟨[.fd .str], []⟩, true, .pre (fun x => inI x.1.1) fun x => ((Lib.itoa x.1.1, ()), ())⟩
theorem Tryd.itoa.holds : Tryd.itoa.c.Holds Tryd.prog :=
  lib_i_s (by kernel_rfl) fun a w D hp hiv => by
    obtain ⟨h1, _, _⟩ := Dop_inv hiv
    have hp' := of_decide_eq_true hp
    refine (Tryd.strconv_Itoa a hp'.1 hp'.2 w h1).mono fun e w' ⟨h4, k, os, h5⟩ => ⟨h4, ?_⟩
    subst h5
    refine ⟨rfl, rfl, rfl, ?_, fun j hj => ?_⟩
    · show w.heap.size ≤ (w.heap ++ os).size
      rw [Array.size_append]; exact Nat.le_add_right _ _
    · show (w.heap ++ os)[j]? = w.heap[j]?
      exact Array.getElem?_append_left hj
end Go.Proofs
