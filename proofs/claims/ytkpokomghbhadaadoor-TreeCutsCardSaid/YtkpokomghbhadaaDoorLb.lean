/-
 The library's functions that are called, as contracts.
-/
import Derived.Test.YtkpokomghbhadaaDoorDat
import Derived.Test.YtkpokomghbhadaaDoorEnL
namespace Go.Proofs
open Go Go.En Go.RowKit
theorem tab_below {P : Program} {n : String} {g : Nat} {k : IntKind} {zs : List Int} {w w' : World} (hg : P.globalNamed n = some g) (h : Lib.TabIs P w n k zs) (hb : Below w.heap.size w w') : Lib.TabIs P w' n k zs := by
 unfold Lib.TabIs at h ⊢
 unfold World.var? at h ⊢
 rw [hg] at h ⊢
 have hlt : g < w.heap.size := by
  apply Classical.byContradiction
  intro hn
  simp [Array.getElem?_eq_none (Nat.le_of_not_lt hn)] at h
 simpa [hb.block g hlt] using h
theorem cell_below {w w' : World} {a : Addr} {v : Value} (h : w.cell? a = some v) (hb : Below w.heap.size w w') : w'.cell? a = some v := by
 rw [hb.cell (block_lt_of_cell h)]; exact h
theorem Dop_inv {D : Nat → Prop} {w : World} (h : En.Dop.D4.inv D w) : En.Dop.L04 w := by
 obtain ⟨W0, ⟨h1, m, h2⟩, h4⟩ := Sits.below (L := En.Dop.L04) h
 have k1 : Lib.TabIs Tryd.prog { w with heap := W0.heap } "strings.asciiSpace" .u8 Lib.asciiSpaceTab := h1
 have k2 : World.cell? { w with heap := W0.heap } ⟨0, 0, none⟩ = some (.int .i64 m) := h2
 exact ⟨tab_below (g := 1) (by kernel_rfl) k1 h4, m, cell_below k2 h4⟩
def ascii (l : List UInt8) : Bool := l.all fun b => decide (b.toNat < 128)
theorem ascii_at {l : List UInt8} (h : ascii l = true) (j : Nat) (b : UInt8) (hb : l[j]? = some b) : b.toNat < 128 :=
 of_decide_eq_true (List.all_eq_true.1 h b (List.mem_of_getElem? hb))
def okS (l : List UInt8) : Bool := decide (l.length < 4294967281)
def okL (l : List UInt8) : Bool := okS l && ascii l
def Tryd.contains.c : Ctr En.Dop.D4 := ⟨45, 0, ⟨[.fd .str, .fd .str], []⟩, ⟨[.fd .bool], []⟩, true, .pre (fun x => okS x.1.1) fun x => ((Lib.contains x.1.1 x.1.2.1, ()), ())⟩
theorem Tryd.contains.holds : Tryd.contains.c.Holds Tryd.prog :=
 lib_ss_b (p := fun a _ => okS a) (by kernel_rfl) fun a b w D hp hiv => by
  obtain ⟨_, m, h2⟩ := Dop_inv hiv
  refine (Tryd.strings_Contains ⟨⟨a⟩⟩ ⟨⟨b⟩⟩ m w (of_decide_eq_true hp) h2).mono fun e w' ⟨h4, h5⟩ => ⟨h4, by rw [h5]; exact Below.refl _ _⟩
def Tryd.index.c : Ctr En.Dop.D4 := ⟨21, 0, ⟨[.fd .str, .fd .str], []⟩, ⟨[.fd (.int .i64)], []⟩, true, .pre (fun x => okS x.1.1) fun x => ((Lib.index x.1.1 x.1.2.1, ()), ())⟩
theorem Tryd.index.holds : Tryd.index.c.Holds Tryd.prog :=
 lib_ss_i (p := fun a _ => okS a) (by kernel_rfl) fun a b w D hp hiv => by
  obtain ⟨_, m, h2⟩ := Dop_inv hiv
  refine (Tryd.strings_Index ⟨⟨a⟩⟩ ⟨⟨b⟩⟩ m w (of_decide_eq_true hp) h2).mono fun e w' ⟨h4, h5⟩ => ⟨h4, by rw [h5]; exact Below.refl _ _⟩
def Tryd.indexByte.c : Ctr En.Dop.D4 := ⟨19, 0, ⟨[.fd .str, .fd (.int .u8)], []⟩, ⟨[.fd (.int .i64)], []⟩, true, .pre (fun _ => true) fun x => ((Lib.indexByte x.1.1 x.1.2.1.toNat.toUInt8, ()), ())⟩
theorem Tryd.indexByte.holds : Tryd.indexByte.c.Holds Tryd.prog :=
 lib_sc_i (p := fun _ _ => true) (g := fun a b => Lib.indexByte a b.toNat.toUInt8) (by kernel_rfl) fun a b w D hp hiv =>
  (Tryd.strings_IndexByte ⟨⟨a⟩⟩ b w).mono fun e w' ⟨h4, h5⟩ => ⟨h4, by rw [h5]; exact Below.refl _ _⟩
def Tryd.hasPrefix.c : Ctr En.Dop.D4 := ⟨20, 0, ⟨[.fd .str, .fd .str], []⟩, ⟨[.fd .bool], []⟩, true, .pre (fun _ => true) fun x => ((Lib.hasPrefix x.1.1 x.1.2.1, ()), ())⟩
theorem Tryd.hasPrefix.holds : Tryd.hasPrefix.c.Holds Tryd.prog :=
 lib_ss_b (p := fun _ _ => true) (by kernel_rfl) fun a b w D hp hiv =>
  (Tryd.strings_HasPrefix ⟨⟨a⟩⟩ ⟨⟨b⟩⟩ w).mono fun e w' ⟨h4, h5⟩ => ⟨h4, by rw [h5]; exact Below.refl _ _⟩
def Tryd.lower.c : Ctr En.Dop.D4 := ⟨46, 0, ⟨[.fd .str], []⟩, ⟨[.fd .str], []⟩, true, .pre (fun x => okL x.1.1) fun x => ((Lib.toLowerA x.1.1, ()), ())⟩
theorem Tryd.lower.holds : Tryd.lower.c.Holds Tryd.prog :=
 lib_s_s (by kernel_rfl) fun a w D hp hiv => by
  have hp' := Bool.and_eq_true_iff.1 hp
  have h1 : a.length < 4294967281 := of_decide_eq_true hp'.1
  exact Tryd.strings_ToLower_ascii ⟨⟨a⟩⟩ w (show a.length ≤ 140737488355328 by omega) (fun j b hb => ascii_at hp'.2 j b hb)
def Tryd.fields.c : Ctr En.Dop.D4 := ⟨63, 0, ⟨[.fd .str], []⟩, ⟨[.own 1 9], []⟩, false, .pre (fun x => okL x.1.1 && decide ((Lib.fields x.1.1).length ≤ maxLen)) fun x => (((Lib.fields x.1.1).map fun a => a, ()), ())⟩
theorem Tryd.fields.holds : Tryd.fields.c.Holds Tryd.prog :=
 lib_s_os (S := En.Dop.D4) (τ := 1) (E := 9) (by kernel_rfl) (fun a => a) (fun _ => rfl) (g := Lib.fields) (p := fun a => okL a && decide ((Lib.fields a).length ≤ maxLen)) (fun a hp => of_decide_eq_true (Bool.and_eq_true_iff.1 hp).2) fun a w D hp hiv => by
  obtain ⟨h1, _⟩ := Dop_inv hiv
  have hp' := Bool.and_eq_true_iff.1 (Bool.and_eq_true_iff.1 hp).1
  exact Tryd.strings_Fields ⟨⟨a⟩⟩ w (of_decide_eq_true hp'.1) (fun j b hb => ascii_at hp'.2 j b hb) h1
end Go.Proofs
