/-
  The library's functions that are called, as contracts.
-/
import Derived.Test.YtpjjpcgnogpdmaaDoorDat
import Derived.Test.YtpjjpcgnogpdmaaDoorEnL
import Derived.Test.YtpjjpcgnogpdmaaDoorEnS
import Derived.Test.YtpjjpcgnogpdmaaDoorSh
import Derived.Lib.Fields
namespace Go.Proofs
open Go Go.En Go.RowKit
theorem tab_below {P : Program} {n : String} {g : Nat} {k : IntKind} {zs : List Int} {w w' : World} (hg : P.globalNamed n = some g) (h : Lib.TabIs P w n k zs) (hb : Below w.heap.size w w') : Lib.TabIs P w' n k zs := by
  unfold Lib.TabIs at h ⊢
  unfold World.var? at h ⊢
  rw [hg] at h ⊢
  have hlt : g < w.heap.size := by
    apply Classical.byContradiction
    intro hn
    simp [Array.getElem?_eq_none (Nat.le_of_not_lt hn)] at h
  simpa [hb.block g hlt] using h
theorem Dop_inv {D : Nat → Prop} {w : World} (h : En.Dop.D17.inv D w) : En.Dop.L17 w := by
  obtain ⟨W0, ⟨h1, h2, h3, h5⟩, h4⟩ := Sits.below (L := En.Dop.L17) h
  have k1 : Lib.TabIs Tryd.prog { w with heap := W0.heap } "internal/strconv.uint64pow10" .u64 Lib.pow10Tab := h1
  have k2 : Lib.PrintTabsAt 5 6 7 8 Lib.goPrintTabs { w with heap := W0.heap } := h2
  have k3 : Lib.Utf8Tabs 3 4 { w with heap := W0.heap } := h3
  have k5 : Lib.TabIs Tryd.prog { w with heap := W0.heap } "strings.asciiSpace" .u8 Lib.asciiSpaceTab := h5
  exact ⟨tab_below (g := 2) (by kernel_rfl) k1 h4, printTabs_below k2 h4, Utf8Tabs_below k3 h4, tab_below (g := 0) (by kernel_rfl) k5 h4⟩
/-- Is there room for a quoted text? -/
def okQ (l : List UInt8) : Bool := decide (10 * l.length + 12 ≤ 140737488355328)
def inI (n : Int) : Bool := decide (-9223372036854775808 ≤ n ∧ n ≤ 9223372036854775807)
/-- Are all bytes small? -/
def ascii (l : List UInt8) : Bool := l.all fun b => decide (b.toNat < 128)
theorem ascii_at {l : List UInt8} (h : ascii l = true) (j : Nat) (b : UInt8) (hb : l[j]? = some b) : b.toNat < 128 :=
  of_decide_eq_true (List.all_eq_true.1 h b (List.mem_of_getElem? hb))
def okS (l : List UInt8) : Bool := decide (l.length < 4294967281)
def okL (l : List UInt8) : Bool := okS l && ascii l
def Tryd.quote.c : Ctr En.Dop.D17 := ⟨25, 0, ⟨[.fd .str], []⟩, ⟨[.fd .str], []⟩, true, .pre (fun x => okQ x.1.1) fun x => ((Law.quoteK Lib.goPrintTabs x.1.1, ()), ())⟩
theorem Tryd.quote.holds : Tryd.quote.c.Holds Tryd.prog :=
  lib_s_s (by kernel_rfl) fun a w D hp hiv => by
    rw [Law.quoteK_eq]
    obtain ⟨_, h2, h3, _⟩ := Dop_inv hiv
    have hp' : 10 * a.length + 12 ≤ 140737488355328 := of_decide_eq_true hp
    refine (Tryd.strconv_Quote Lib.goPrintTabs ⟨⟨a⟩⟩ w hp' h2 h3).mono fun e w' ⟨h4, h5⟩ => ⟨h4, h5⟩
def Tryd.itoa.c : Ctr En.Dop.D17 := ⟨27, 0, ⟨[.fd (.int .i64)], []⟩, ⟨[.fd .str], []⟩, true, .pre (fun x => inI x.1.1) fun x => ((Law.itoaK x.1.1, ()), ())⟩
theorem Tryd.itoa.holds : Tryd.itoa.c.Holds Tryd.prog :=
  lib_i_s (by kernel_rfl) fun a w D hp hiv => by
    rw [Law.itoaK_eq]
    obtain ⟨h1, _, _⟩ := Dop_inv hiv
    have hp' := of_decide_eq_true hp
    refine (Tryd.strconv_Itoa a hp'.1 hp'.2 w h1).mono fun e w' ⟨h4, k, os, h5⟩ => ⟨h4, ?_⟩
    subst h5
    refine ⟨rfl, rfl, rfl, ?_, fun j hj => ?_⟩
    · show w.heap.size ≤ (w.heap ++ os).size
      rw [Array.size_append]; exact Nat.le_add_right _ _
    · show (w.heap ++ os)[j]? = w.heap[j]?
      exact Array.getElem?_append_left hj
def Tryd.fields.c : Ctr En.Dop.D17 := ⟨46, 0, ⟨[.fd .str], []⟩, ⟨[.own 1 9], []⟩, false, .pre (fun x => okL x.1.1 && decide ((Lib.fields x.1.1).length ≤ maxLen)) fun x => (((Lib.fields x.1.1).map fun a => a, ()), ())⟩
theorem Tryd.fields.holds : Tryd.fields.c.Holds Tryd.prog :=
  lib_s_os (S := En.Dop.D17) (τ := 1) (E := 9) (by kernel_rfl) (fun a => a) (fun _ => rfl) (g := Lib.fields) (p := fun a => okL a && decide ((Lib.fields a).length ≤ maxLen)) (fun a hp => of_decide_eq_true (Bool.and_eq_true_iff.1 hp).2) fun a w D hp hiv => by
    obtain ⟨_, _, _, h1⟩ := Dop_inv hiv
    have hp' := Bool.and_eq_true_iff.1 (Bool.and_eq_true_iff.1 hp).1
    exact Tryd.strings_Fields ⟨⟨a⟩⟩ w (of_decide_eq_true hp'.1) (fun j b hb => ascii_at hp'.2 j b hb) h1
def Tryd.sort.c : Ctr En.Dop.D17 := ⟨35, 1, ⟨[.rw 0], [rowB 0 3]⟩, ⟨[], [rowB 0 3]⟩, false, .pre (fun x => okSort x.2.1.1) fun x => ((), ((((isort (x.2.1.1.map id)).map id), ()), ()))⟩
theorem Tryd.sort.holds : Tryd.sort.c.Holds Tryd.prog :=
  sortCtr (S := En.Dop.D17) (P := Tryd.prog) (f := 35) (σ := 0) (E := 3) (by kernel_rfl) id id (fun _ => rfl) (fun _ => rfl)
    (fun blk cap zs w h1 h2 h3 => Tryd.slices_Sort_int blk 0 cap zs w h1 h2 h3)
def Tryd.clone.c : Ctr En.Dop.D17 := ⟨24, 0, ⟨[.fd (.sl 0)], []⟩, ⟨[.own 0 3], []⟩, false, .pre (fun x => decide (x.1.1.length * 8 ≤ 140737488355328)) fun x => ((x.1.1, ()), ())⟩
theorem Tryd.clone.holds : Tryd.clone.c.Holds Tryd.prog :=
  cloneCtr (S := En.Dop.D17) (P := Tryd.prog) (f := 24) (σ := 0) (E := 3) (by kernel_rfl) id (fun _ => rfl) rfl
    (fun n c w => Tryd.slices_Clone_int_nil n c w) (fun a c w => Tryd.slices_Clone_int_zero a c w)
    (fun b off n c zs w h1 h2 h3 => Tryd.slices_Clone_int b off n c zs w h1 h2 h3)
end Go.Proofs
