/-
  The library's functions that are called, as contracts.
-/
import Derived.Test.YtfonahhlkanabaaDoorDat
import Derived.Test.YtfonahhlkanabaaDoorEnB
import Derived.Test.YtfonahhlkanabaaDoorSh
import Derived.Shelf.RegionOpenPlain
import Derived.Lib.Strings
import Derived.Lib.Slices
import Derived.Lib.Walk
import Derived.Lib.UnsafeStr
import Derived.Lib.MakeNoZero
import Derived.WalkKit
import Derived.Laws.Externs
namespace Go.Proofs
open Go Go.En Go.Shelf Go.RowKit
theorem tab_below {P : Program} {n : String} {g : Nat} {k : IntKind} {zs : List Int} {w w' : World} (hg : P.globalNamed n = some g) (h : Lib.TabIs P w n k zs) (hb : Below w.heap.size w w') : Lib.TabIs P w' n k zs := by
  unfold Lib.TabIs at h ⊢
  unfold World.var? at h ⊢
  rw [hg] at h ⊢
  have hlt : g < w.heap.size := by
    apply Classical.byContradiction
    intro hn
    simp [Array.getElem?_eq_none (Nat.le_of_not_lt hn)] at h
  simpa [hb.block g hlt] using h
theorem Dop_inv {D : Nat → Prop} {w : World} (h : En.Dop.D7.inv D w) : En.Dop.L7 w := by
  obtain ⟨W0, ⟨h1, h2, h3⟩, h4⟩ := Sits.below (L := En.Dop.L7) h
  have k1 : Lib.TabIs Tryd.prog { w with heap := W0.heap } "internal/strconv.uint64pow10" .u64 Lib.pow10Tab := h1
  have k2 : Lib.PrintTabsAt 4 5 6 7 Lib.goPrintTabs { w with heap := W0.heap } := h2
  have k3 : Lib.Utf8Tabs 2 3 { w with heap := W0.heap } := h3
  exact ⟨tab_below (g := 0) (by kernel_rfl) k1 h4, printTabs_below k2 h4, Utf8Tabs_below k3 h4⟩
/-- Is there room for a quoted text? -/
def okQ (l : List UInt8) : Bool := decide (10 * l.length + 12 ≤ 140737488355328)
def inI (n : Int) : Bool := decide (-9223372036854775808 ≤ n ∧ n ≤ 9223372036854775807)
def Tryd.quote.c : Ctr En.Dop.D7 := ⟨16, 0, ⟨[.fd .str], []⟩, ⟨[.fd .str], []⟩, true, .pre (fun x => okQ x.1.1) fun x => ((Law.quoteL Lib.goPrintTabs x.1.1, ()), ())⟩
theorem Tryd.quote.holds : Tryd.quote.c.Holds Tryd.prog :=
  lib_s_s (by kernel_rfl) fun a w D hp hiv => by
    obtain ⟨_, h2, h3⟩ := Dop_inv hiv
    have hp' : 10 * a.length + 12 ≤ 140737488355328 := of_decide_eq_true hp
    refine (Tryd.strconv_Quote Lib.goPrintTabs ⟨⟨a⟩⟩ w hp' h2 h3).mono fun e w' ⟨h4, h5⟩ => ⟨h4, h5⟩
def Tryd.itoa.c : Ctr En.Dop.D7 := ⟨14, 0, ⟨[.fd (.int .i64)], []⟩, ⟨[.fd .str], []⟩, true, .pre (fun x => inI x.1.1) fun x => ((Lib.itoa x.1.1, ()), ())⟩
theorem Tryd.itoa.holds : Tryd.itoa.c.Holds Tryd.prog :=
  lib_i_s (by kernel_rfl) fun a w D hp hiv => by
    obtain ⟨h1, _, _⟩ := Dop_inv hiv
    have hp' := of_decide_eq_true hp
    refine (Tryd.strconv_Itoa a hp'.1 hp'.2 w h1).mono fun e w' ⟨h4, k, os, h5⟩ => ⟨h4, ?_⟩
    subst h5
    refine ⟨rfl, rfl, rfl, ?_, fun j hj => ?_⟩
    · show w.heap.size ≤ (w.heap ++ os).size
      rw [Array.size_append]; exact Nat.le_add_right _ _
    · show (w.heap ++ os)[j]? = w.heap[j]?
      exact Array.getElem?_append_left hj
def Tryd.join.c : Ctr En.Dop.D7 := ⟨17, 0, ⟨[.fd (.sl 1), .fd .str], []⟩, ⟨[.fd .str], []⟩, false, .pre (fun x => decide (x.1.1.length ≤ 140737488355328 ∧ (Lib.join x.1.1 x.1.2.1).length ≤ 140737488355328)) fun x => ((Lib.join x.1.1 x.1.2.1, ()), ())⟩
theorem Tryd.join.holds : Tryd.join.c.Holds Tryd.prog := by
  have h := joinCtr (S := En.Dop.D7) (P := Tryd.prog) (f := 17) (τ := 1) (by kernel_rfl) id id (fun _ => rfl) (fun a c sep w => Tryd.strings_Join_none a c sep w) (fun bk o c xs sep w h1 h2 h3 h4 h5 => Tryd.strings_Join bk o c xs sep w h1 h2 h3 h4 h5)
  have e : ∀ l : List (List UInt8), l.map id = l := fun l => List.map_id l
  simp only [id_eq, e] at h
  exact h
set_option maxHeartbeats 1000000 in
set_option maxRecDepth 100000 in
theorem Tryd.cc_used (b : Nat) (w : World) (h0 : w.cell? ⟨b, 0, none⟩ = some (.pointer (some ⟨b, 0, none⟩))) :
    Calls Tryd.prog 27 #[.pointer (some ⟨b, 0, none⟩)] w fun e w' => e = .returned (.tuple #[]) ∧ w' = w := by
  obtain ⟨j, hj, _⟩ := Option.map_eq_some_iff.1 Tryd.Builder_Extra_169.sizeBuilder
  have hj' : Tryd.prog.info? 48 = some j := hj
  go_enter Tryd.func27, Tryd.ntmps27
  go_wp2
  rw [Lib.run_neq_ptr_same w _ Tryd.underlying46 hj']
  go_wp2
  go_end0
  exact ⟨rfl, rfl⟩
set_option maxHeartbeats 1000000 in
set_option maxRecDepth 100000 in
theorem Tryd.cc_fresh (b : Nat) (w : World) (h0 : w.cell? ⟨b, 0, none⟩ = some (.pointer none)) (hsh : w.shape? b = some (48, 2)) (hfz : w.frozen? ⟨b, 0, none⟩ = false) :
    Calls Tryd.prog 27 #[.pointer (some ⟨b, 0, none⟩)] w fun e w' => e = .returned (.tuple #[]) ∧ w' = w.setCell ⟨b, 0, none⟩ (.pointer (some ⟨b, 0, none⟩)) := by
  obtain ⟨j, hj, hjs⟩ := Option.map_eq_some_iff.1 Tryd.Builder_Extra_169.sizeBuilder
  have hj' : Tryd.prog.info? 48 = some j := hj
  have hlies : liesAt Tryd.prog Tryd.prog.depth 48 (2 / Tryd.prog.cellsOf 48) 0 48 1 = true := Tryd.Builder_Extra_169.liesBuilder
  go_enter Tryd.func27, Tryd.ntmps27
  go_wp2
  rw [Lib.run_to_unsafe w ⟨b, 0, none⟩ Tryd.underlying46 Tryd.underlying82 hj' (by rw [hjs]; decide) hsh (Nat.zero_lt_succ 1)]
  simp only [Result.andThen]
  rw [Oper.upon_value]
  go_wp2
  rw [run_callFunc_extern Tryd.func39 (by kernel_rfl) (by kernel_rfl) (by kernel_rfl) (e := Extern.AbiNoEscape.same) (by kernel_rfl)]
  rw [Lib.run_noEscape]
  simp only [Result.andThen]
  rw [Oper.upon_value]
  go_wp2
  rw [Lib.run_from_unsafe w ⟨b, 0, none⟩ Tryd.underlying82 Tryd.underlying46 hj' hsh hlies]
  simp only [Result.andThen]
  rw [Oper.upon_value]
  go_wp2
  go_end0
  exact ⟨rfl, rfl⟩
def Tryd.cc0.c : Ctr En.Dop.D7 := ⟨27, 1, ⟨[.al 0 0], [bld0 48 2 5]⟩, ⟨[], [bld1 48 2 5]⟩, false, .tot fun x => ((), (((), x.2.1.2.1, ()), ()))⟩
theorem Tryd.cc0.holds : Tryd.cc0.c.Holds Tryd.prog := copyCheck0 (by kernel_rfl) fun b w h1 h2 h3 => Tryd.cc_fresh b w h1 h2 h3
def Tryd.cc1.c : Ctr En.Dop.D7 := ⟨27, 1, ⟨[.al 0 0], [bld1 48 2 5]⟩, ⟨[], [bld1 48 2 5]⟩, false, .tot fun x => ((), (((), x.2.1.2.1, ()), ()))⟩
theorem Tryd.cc1.holds : Tryd.cc1.c.Holds Tryd.prog := copyCheck1 (by kernel_rfl) fun b w h1 => Tryd.cc_used b w h1
set_option maxHeartbeats 1000000 in
set_option maxRecDepth 100000 in
theorem Any.Builder_String_exact {P : Program} {ρ : Go.Shelf.Ren} (L : Lays.n169 P ρ) (X : Builder.Extra P ρ) (b g cap : Nat) (cur : Array Value) (l : List UInt8) (w : World) (h0 : l ≠ [])
    (hbk : w.heap[b]? = some (.cells #[.pointer (some ⟨b, 0, none⟩), .slice (some ⟨g, 0, none⟩) l.length cap] (ρ.t 72) (0, 0))) (hg : w.heap[g]? = some (.cells cur (ρ.t 5) (0, 0)))
    (hnc : l.length ≤ cap) (hcm : cap ≤ maxLen) (hcs : cur.size = cap) (htake : cur.toList.take l.length = Lib.byteCells l) :
    Calls P (ρ.f 169) #[.pointer (some ⟨b, 0, none⟩)] w fun e w' => e = .returned (.string ⟨l.toArray⟩) ∧ w' = w.drew.freeze ⟨g, 0, none⟩ l.length := by
  have hl0 : l.length ≠ 0 := by simpa using h0
  have c1 : w.drew.cell? ⟨b, 1, none⟩ = some (.slice (some ⟨g, 0, none⟩) l.length cap) := by
    have : w.drew.heap[b]? = some (.cells #[.pointer (some ⟨b, 0, none⟩), .slice (some ⟨g, 0, none⟩) l.length cap] (ρ.t 72) (0, 0)) := hbk
    rw [Lib.cell_of_heap this]; rfl
  have hSD : (Builtin.unsafeSliceData_ #[(ρ.t 37)] (ρ.t 127) #[.slice (some ⟨g, 0, none⟩) l.length cap]).run P w.drew = .ok (.pointer (some ⟨g, 0, none⟩)) w.drew :=
    Lib.run_unsafeSliceData_row _ _ _ _ _ _ (by omega)
  have hUS : (Builtin.unsafeString_ #[(ρ.t 127), (ρ.t 3)] (ρ.t 9) #[.pointer (some ⟨g, 0, none⟩), .int .i64 l.length]).run P w.drew = .ok (.string ⟨l.toArray⟩) (w.drew.freeze ⟨g, 0, none⟩ l.length) := by
    refine Lib.run_unsafeString_row w.drew (ρ.t 127) (ρ.t 3) (ρ.t 9) (ρ.t 5) L.t127 X.cellsByte g cur.size (by have hg' : w.drew.heap[g]? = some (.cells cur (ρ.t 5) (0, 0)) := hg; simp [World.shape?, hg']) l h0 (by omega) (by unfold maxLen at hcm; omega) ?_
    intro j x hx
    have hg' : w.drew.heap[g]? = some (.cells cur (ρ.t 5) (0, 0)) := hg
    have hadd : (⟨g, 0, none⟩ : Addr).add j = ⟨g, j, none⟩ := by unfold Addr.add; split <;> simp_all
    rw [hadd, Lib.cell_of_heap hg']
    have hjl : j < l.length := by
      rcases Nat.lt_or_ge j l.length with h' | h'
      · exact h'
      · rw [List.getElem?_eq_none h'] at hx; cases hx
    have e1 : (cur.toList.take l.length)[j]? = cur.toList[j]? := List.getElem?_take_of_lt hjl
    have e2 : cur[j]? = cur.toList[j]? := by simp
    rw [e2, ← e1, htake]
    simp [Lib.byteCells, hx]
  have mixed := L.mixed
  have t72 := L.t72; have a72 := L.a72; have z72 := L.z72; have v72 := L.v72; have u72 := run_underlying L.t72
  have t70 := L.t70; have a70 := L.a70; have z70 := L.z70; have v70 := L.v70; have u70 := run_underlying L.t70
  have t37 := L.t37; have a37 := L.a37; have z37 := L.z37; have v37 := L.v37; have u37 := run_underlying L.t37
  have t127 := L.t127; have a127 := L.a127; have z127 := L.z127; have v127 := L.v127; have u127 := run_underlying L.t127
  have t3 := L.t3; have a3 := L.a3; have z3 := L.z3; have v3 := L.v3; have u3 := run_underlying L.t3
  have t9 := L.t9; have a9 := L.a9; have z9 := L.z9; have v9 := L.v9; have u9 := run_underlying L.t9
  have t5 := X.t5; have a5 := X.a5; have z5 := X.z5; have v5 := X.v5; have u5 := run_underlying X.t5
  go_enter L.f169, Body.n169_ntmps ρ
  go_wp2
  go_region_o
  all_goals (go_wp2; go_ret; exact ⟨rfl, rfl⟩)
theorem heap_freeze_ne (w : World) (g n : Nat) {j : Nat} (h : j ≠ g) : (w.freeze ⟨g, 0, none⟩ n).heap[j]? = w.heap[j]? := by
  unfold World.freeze
  split
  · rfl
  · simp [Array.getElem?_modify, Ne.symm h]
theorem size_freeze (w : World) (g n : Nat) : w.heap.size ≤ (w.freeze ⟨g, 0, none⟩ n).heap.size := (Lib.below_freeze (Below.refl 0 w) (p := ⟨g, 0, none⟩) (Nat.zero_le _) n).size
def Tryd.bstr.c : Ctr En.Dop.D7 := ⟨18, 1, ⟨[.al 0 0], [bld1 48 2 5]⟩, ⟨[.fd .str], []⟩, false, .pre (fun x => decide (0 < x.2.1.2.1.length) && x.2.1.2.1.all fun b => decide (0 ≤ byX En.Dop.D7 2 b ∧ byX En.Dop.D7 2 b < 256)) fun x => (((x.2.1.2.1.map fun b => (byX En.Dop.D7 2 b).toNat.toUInt8), ()), ())⟩
theorem Tryd.bstr.holds : Tryd.bstr.c.Holds Tryd.prog := builderString (by kernel_rfl) rfl fun b g cap cur l w h1 h2 h3 h4 h5 h6 h7 =>
  (Any.Builder_String_exact Tryd.lays169 Tryd.Builder_Extra_169 b g cap cur l w h1 h2 h3 h4 h5 h6 (h7.trans rfl)).mono fun e w' ⟨k1, k2⟩ => by
    subst k2
    have hbl := Lib.below_freeze (Below.refl 0 w.drew) (p := ⟨g, 0, none⟩) (Nat.zero_le _) l.length
    exact ⟨k1, hbl.os, hbl.tape, hbl.output, size_freeze w.drew g _, fun j _ hne => heap_freeze_ne w.drew g _ hne⟩
end Go.Proofs
