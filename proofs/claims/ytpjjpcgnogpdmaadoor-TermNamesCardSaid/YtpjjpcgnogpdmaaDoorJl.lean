/-
  From the row's cell 'laid' to what the contracts of the library ask of the world; the arguments' ranges.
-/
import Derived.Test.YtpjjpcgnogpdmaaDoorRows
import Derived.Test.YtpjjpcgnogpdmaaDoorTmG
import Derived.Test.YtpjjpcgnogpdmaaDoorEnP
import Derived.Lib.LaidPrint
import Derived.Lib.LaidTab

import Derived.Lay
import Derived.LaidOnce
import Derived.MakeChecks
namespace Go.Proofs.YtpjjpcgnogpdmaaDoor
open Go.ChangeShapes Go.WideShapes Go.ChangeAt Go.RowKit Go.En

theorem own17 : ownKnob Tryd.prog.godebug = none := by kernel_rfl
theorem laidOut17 : laidOutB Tryd.prog = true := by kernel_rfl
/-- The listed variables. -/
def laidL : List (String × DataW Unit) := Rows.termTruthsRow.laid
theorem d20 : Rows.laid_strconv_isPrint16 = Lib.sliceData .u16 Lib.goPrintTabs.p16 := by kernel_rfl
theorem d21 : Rows.laid_strconv_isNotPrint16 = Lib.sliceData .u16 Lib.goPrintTabs.n16 := by kernel_rfl
theorem d22 : Rows.laid_strconv_isPrint32 = Lib.sliceData .u32 Lib.goPrintTabs.p32 := by kernel_rfl
theorem d23 : Rows.laid_strconv_isNotPrint32 = Lib.sliceData .u16 Lib.goPrintTabs.n32 := by kernel_rfl
theorem d3 : Rows.laid_unicode_utf8_first = Lib.firstData := by kernel_rfl
theorem d4 : Rows.laid_unicode_utf8_acceptRanges = Lib.acceptData := by kernel_rfl
theorem dp : (Rows.laid_internal_strconv_uint64pow10 : DataW Unit) = Lib.tabData .u64 Lib.pow10Tab := by kernel_rfl
theorem ds : (Rows.laid_strings_asciiSpace : DataW Unit) = Lib.tabData .u8 Lib.asciiSpaceTab := by kernel_rfl
theorem laid_plain (w : World) : laidMetH Tryd.prog laidL w = laidMet Tryd.prog laidL w := MakeChecks.laidMetH_plain _ _ _ (by kernel_rfl)
theorem mem_laid {n : String} {d : DataW Unit} (h : (n, d) ∈ laidL) {W : World} (hm : laidMet Tryd.prog laidL W) : Lib.VarReads Tryd.prog W n d := Lib.laidMet.reads hm h
/-- WHAT THE CONTRACTS ASK. -/
theorem l17 {W : World} (h0 : laidMetH Tryd.prog laidL W) : En.Dop.L17 W := by
  rw [laid_plain] at h0
  have m (n : String) (d : DataW Unit) (i : Nat) (e : laidL[i]? = some (n, d)) : Lib.VarReads Tryd.prog W n d := mem_laid (List.mem_of_getElem? e) h0
  refine ⟨?_, ?_, ?_, ?_⟩
  · obtain ⟨g, t, cs, fuel, p, hg, hty, hvar, hd⟩ := m "internal/strconv.uint64pow10" Rows.laid_internal_strconv_uint64pow10 2 rfl
    rw [dp] at hd
    obtain rfl := Option.some.inj ((show Tryd.prog.globalNamed "internal/strconv.uint64pow10" = some 2 by kernel_rfl).symm.trans hg)
    obtain rfl := Option.some.inj ((show (Tryd.prog.globals[2]?).map (·.type) = some 107 by kernel_rfl).symm.trans hty)
    have hcs := Lib.cells_of_tab (e := 84) (n := 20) Tryd.underlying107 Tryd.underlying84 (by kernel_rfl) (by kernel_rfl) hd
    unfold Lib.TabIs
    rw [hvar, ← hcs]
  · exact printTabs_of_reads (ρ := Tryd.lays177_ren) { Tryd.lays177 with } ⟨by kernel_rfl, by kernel_rfl, by kernel_rfl, by kernel_rfl, by kernel_rfl, by kernel_rfl, by kernel_rfl, by kernel_rfl, by kernel_rfl, by kernel_rfl⟩
      (d20 ▸ m "strconv.isPrint16" _ 9 rfl) (d21 ▸ m "strconv.isNotPrint16" _ 7 rfl) (d22 ▸ m "strconv.isPrint32" _ 10 rfl) (d23 ▸ m "strconv.isNotPrint32" _ 8 rfl)
  · exact utf8Tabs_of_reads (ρ := Tryd.lays177_ren) { Tryd.lays177 with } ⟨by kernel_rfl, by kernel_rfl, by kernel_rfl, by kernel_rfl, by kernel_rfl, by kernel_rfl, by kernel_rfl⟩ (d3 ▸ m "unicode/utf8.first" _ 11 rfl) (d4 ▸ m "unicode/utf8.acceptRanges" _ 3 rfl)
  · obtain ⟨g, t, cs, fuel, p, hg, hty, hvar, hd⟩ := m "strings.asciiSpace" Rows.laid_strings_asciiSpace 5 rfl
    rw [ds] at hd
    obtain rfl := Option.some.inj ((show Tryd.prog.globalNamed "strings.asciiSpace" = some 0 by kernel_rfl).symm.trans hg)
    obtain rfl := Option.some.inj ((show (Tryd.prog.globals[0]?).map (·.type) = some 88 by kernel_rfl).symm.trans hty)
    have hcs := Lib.cells_of_tab (e := 5) (n := 256) Tryd.underlying88 Tryd.underlying5 (by kernel_rfl) (by kernel_rfl) hd
    unfold Lib.TabIs
    rw [hvar, ← hcs]
theorem inv17 {W : World} (h0 : laidMetH Tryd.prog laidL W) : En.Dop.D17.inv (· < W.heap.size) W := Sits.first (L := En.Dop.L17) (l17 h0)
/-- The witness's world. -/
theorem met17 (os : Os) (args : Array Value) : laidMetH Tryd.prog laidL ((World.laidAll Tryd.prog os laidL).forCall (fun _ _ => 0) ⟨#[], args, []⟩).memory := by
  rw [laid_plain]; exact laidMet_laidAll _ (by kernel_rfl) (by kernel_rfl)
theorem wit17 {H : Type} {enc : TypeId × Value → H} {os : Os} {f : FuncId} {fn : Func} {s : ChangeSpec} (args : Array Value)
    (hv : ((World.laidAll Tryd.prog os laidL).forCall (fun _ _ => 0) ⟨#[], args, []⟩).variablesZipB Tryd.prog = true)
    (hr : (((World.laidAll Tryd.prog os laidL).forCall (fun _ _ => 0) ⟨#[], args, []⟩).heap.toList.drop Tryd.prog.globals.size).take ((begin Tryd.prog (fun _ _ => 0) default).world.heap.size - Tryd.prog.globals.size) =
      (begin Tryd.prog (fun _ _ => 0) default).world.heap.toList.drop Tryd.prog.globals.size)
    (hok : Input.okWideB Tryd.prog ((World.laidAll Tryd.prog os laidL).forCall (fun _ _ => 0) ⟨#[], args, []⟩) f ⟨#[], args, []⟩ = true)
    (hpre : s.preB enc Tryd.prog fn [] false ((World.laidAll Tryd.prog os laidL).forCall (fun _ _ => 0) ⟨#[], args, []⟩).memory args 8 = true)
    (hsz : s.sizedB enc Tryd.prog fn false ((World.laidAll Tryd.prog os laidL).forCall (fun _ _ => 0) ⟨#[], args, []⟩).memory args 8 = true) :
    ∃ (w : World) (tape : Tape) (i : Input), w.os = os ∧ (w.forCall tape i).Shaped Tryd.prog ∧ i.vars = [] ∧ Input.okWide Tryd.prog (w.forCall tape i) .any w.heap.size f i ∧
      ((s.pre enc Tryd.prog fn [] false (w.forCall tape i).memory i.args ∧ laidMetH Tryd.prog laidL (w.forCall tape i).memory) ∧ sizedMet enc Tryd.prog fn (OpenSpec.ofChange s) false (w.forCall tape i).memory i.args) ∧ ({} : Assume).holds Tryd.prog (lone (Frame.enter Tryd.prog f i.args .normal) [] (w.forCall tape i)) :=
  ⟨World.laidAll Tryd.prog os laidL, fun _ _ => 0, ⟨#[], args, []⟩, World.laidAll_os _ _ _, World.shaped_of_ZipB hv hr, (Input.okWide_of_okWideB (base := 0) hok).1, (Input.okWide_of_okWideB hok).2, ⟨⟨ChangeSpec.pre_of_preB hpre, met17 os _⟩, sizedMet_of_sizedB hsz⟩, by
    simp only [Assume.holds]
    exact ⟨by simp, by simp, fun _ => Modest.zero, by simp, by simp⟩⟩
theorem byte17 {a : Int} (h : Rng En.Dop.D17 (.int .u8 a)) : 0 ≤ a ∧ a ≤ 255 := by
  cases h with
  | int k n h7 => simpa [Lit.wf, IntKind.min, IntKind.max, IntKind.signed, IntKind.bits] using h7
end Go.Proofs.YtpjjpcgnogpdmaaDoor
