/-
  The library's functions that are called, as contracts.
-/
import Derived.Test.YtcifaokahhbflaaDoorDat
import Derived.Test.YtcifaokahhbflaaDoorEnL
import Derived.WalkKit
import Derived.Laws.Bits64b
namespace Go.Proofs
open Go Go.En Go.RowKit
theorem tab_below {P : Program} {n : String} {g : Nat} {k : IntKind} {zs : List Int} {w w' : World} (hg : P.globalNamed n = some g) (h : Lib.TabIs P w n k zs) (hb : Below w.heap.size w w') : Lib.TabIs P w' n k zs := by
  unfold Lib.TabIs at h ⊢
  unfold World.var? at h ⊢
  rw [hg] at h ⊢
  have hlt : g < w.heap.size := by
    apply Classical.byContradiction
    intro hn
    simp [Array.getElem?_eq_none (Nat.le_of_not_lt hn)] at h
  simpa [hb.block g hlt] using h
theorem cell_below {w w' : World} {a : Addr} {v : Value} (h : w.cell? a = some v) (hb : Below w.heap.size w w') : w'.cell? a = some v := by
  rw [hb.cell (block_lt_of_cell h)]; exact h
theorem Dop_inv {D : Nat → Prop} {w : World} (h : En.Dop.D2.inv D w) : En.Dop.L02 w := by
  obtain ⟨W0, ⟨h1, ⟨m, h2⟩, h3, h5⟩, h4⟩ := Sits.below (L := En.Dop.L02) h
  have k1 : Lib.TabIs Tryd.prog { w with heap := W0.heap } "strings.asciiSpace" .u8 Lib.asciiSpaceTab := h1
  have k2 : World.cell? { w with heap := W0.heap } ⟨3, 0, none⟩ = some (.int .i64 m) := h2
  have k3 : Lib.TabIs Tryd.prog { w with heap := W0.heap } "internal/strconv.uint64pow10" .u64 Lib.pow10Tab := h3
  have k5 : World.cell? { w with heap := W0.heap } ⟨5, 15, none⟩ = some (.int .u8 4) := h5
  exact ⟨tab_below (g := 0) (by kernel_rfl) k1 h4, ⟨m, cell_below k2 h4⟩, tab_below (g := 2) (by kernel_rfl) k3 h4, cell_below k5 h4⟩
/-- Are all bytes small? -/
def ascii (l : List UInt8) : Bool := l.all fun b => decide (b.toNat < 128)
theorem ascii_at {l : List UInt8} (h : ascii l = true) (j : Nat) (b : UInt8) (hb : l[j]? = some b) : b.toNat < 128 :=
  of_decide_eq_true (List.all_eq_true.1 h b (List.mem_of_getElem? hb))
def okS (l : List UInt8) : Bool := decide (l.length < 4294967281)
def okL (l : List UInt8) : Bool := okS l && ascii l
def Tryd.contains.c : Ctr En.Dop.D2 := ⟨30, 0, ⟨[.fd .str, .fd .str], []⟩, ⟨[.fd .bool], []⟩, true, .pre (fun x => okS x.1.1) fun x => ((Lib.contains x.1.1 x.1.2.1, ()), ())⟩
theorem Tryd.contains.holds : Tryd.contains.c.Holds Tryd.prog :=
  lib_ss_b (p := fun a _ => okS a) (by kernel_rfl) fun a b w D hp hiv => by
    obtain ⟨_, ⟨m, h2⟩, _⟩ := Dop_inv hiv
    refine (Tryd.strings_Contains ⟨⟨a⟩⟩ ⟨⟨b⟩⟩ m w (of_decide_eq_true hp) h2).mono fun e w' ⟨h4, h5⟩ => ⟨h4, by rw [h5]; exact Below.refl _ _⟩
def Tryd.index.c : Ctr En.Dop.D2 := ⟨36, 0, ⟨[.fd .str, .fd .str], []⟩, ⟨[.fd (.int .i64)], []⟩, true, .pre (fun x => okS x.1.1) fun x => ((Lib.index x.1.1 x.1.2.1, ()), ())⟩
theorem Tryd.index.holds : Tryd.index.c.Holds Tryd.prog :=
  lib_ss_i (p := fun a _ => okS a) (by kernel_rfl) fun a b w D hp hiv => by
    obtain ⟨_, ⟨m, h2⟩, _⟩ := Dop_inv hiv
    refine (Tryd.strings_Index ⟨⟨a⟩⟩ ⟨⟨b⟩⟩ m w (of_decide_eq_true hp) h2).mono fun e w' ⟨h4, h5⟩ => ⟨h4, by rw [h5]; exact Below.refl _ _⟩
def Tryd.indexByte.c : Ctr En.Dop.D2 := ⟨34, 0, ⟨[.fd .str, .fd (.int .u8)], []⟩, ⟨[.fd (.int .i64)], []⟩, true, .pre (fun _ => true) fun x => ((Lib.indexByte x.1.1 x.1.2.1.toNat.toUInt8, ()), ())⟩
theorem Tryd.indexByte.holds : Tryd.indexByte.c.Holds Tryd.prog :=
  lib_sc_i (p := fun _ _ => true) (g := fun a b => Lib.indexByte a b.toNat.toUInt8) (by kernel_rfl) fun a b w D hp hiv =>
    (Tryd.strings_IndexByte ⟨⟨a⟩⟩ b w).mono fun e w' ⟨h4, h5⟩ => ⟨h4, by rw [h5]; exact Below.refl _ _⟩
def Tryd.hasPrefix.c : Ctr En.Dop.D2 := ⟨35, 0, ⟨[.fd .str, .fd .str], []⟩, ⟨[.fd .bool], []⟩, true, .pre (fun _ => true) fun x => ((Lib.hasPrefix x.1.1 x.1.2.1, ()), ())⟩
theorem Tryd.hasPrefix.holds : Tryd.hasPrefix.c.Holds Tryd.prog :=
  lib_ss_b (p := fun _ _ => true) (by kernel_rfl) fun a b w D hp hiv =>
    (Tryd.strings_HasPrefix ⟨⟨a⟩⟩ ⟨⟨b⟩⟩ w).mono fun e w' ⟨h4, h5⟩ => ⟨h4, by rw [h5]; exact Below.refl _ _⟩
def Tryd.lower.c : Ctr En.Dop.D2 := ⟨54, 0, ⟨[.fd .str], []⟩, ⟨[.fd .str], []⟩, true, .pre (fun x => okL x.1.1) fun x => ((Lib.toLowerA x.1.1, ()), ())⟩
theorem Tryd.lower.holds : Tryd.lower.c.Holds Tryd.prog :=
  lib_s_s (by kernel_rfl) fun a w D hp hiv => by
    have hp' := Bool.and_eq_true_iff.1 hp
    have h1 : a.length < 4294967281 := of_decide_eq_true hp'.1
    exact Tryd.strings_ToLower_ascii ⟨⟨a⟩⟩ w (show a.length ≤ 140737488355328 by omega) (fun j b hb => ascii_at hp'.2 j b hb)
def Tryd.fields.c : Ctr En.Dop.D2 := ⟨29, 0, ⟨[.fd .str], []⟩, ⟨[.own 1 9], []⟩, false, .pre (fun x => okL x.1.1 && decide ((Lib.fields x.1.1).length ≤ maxLen)) fun x => (((Lib.fields x.1.1).map fun a => a, ()), ())⟩
theorem Tryd.fields.holds : Tryd.fields.c.Holds Tryd.prog :=
  lib_s_os (S := En.Dop.D2) (τ := 1) (E := 9) (by kernel_rfl) (fun a => a) (fun _ => rfl) (g := Lib.fields) (p := fun a => okL a && decide ((Lib.fields a).length ≤ maxLen)) (fun a hp => of_decide_eq_true (Bool.and_eq_true_iff.1 hp).2) fun a w D hp hiv => by
    obtain ⟨h1, _⟩ := Dop_inv hiv
    have hp' := Bool.and_eq_true_iff.1 (Bool.and_eq_true_iff.1 hp).1
    exact Tryd.strings_Fields ⟨⟨a⟩⟩ w (of_decide_eq_true hp'.1) (fun j b hb => ascii_at hp'.2 j b hb) h1
def inI (n : Int) : Bool := decide (-9223372036854775808 ≤ n ∧ n ≤ 9223372036854775807)
def Tryd.itoa.c : Ctr En.Dop.D2 := ⟨19, 0, ⟨[.fd (.int .i64)], []⟩, ⟨[.fd .str], []⟩, true, .pre (fun x => inI x.1.1) fun x => ((Lib.itoa x.1.1, ()), ())⟩
theorem Tryd.itoa.holds : Tryd.itoa.c.Holds Tryd.prog :=
  lib_i_s (by kernel_rfl) fun a w D hp hiv => by
    obtain ⟨_, _, h1, _⟩ := Dop_inv hiv
    have hp' := of_decide_eq_true hp
    refine (Tryd.strconv_Itoa a hp'.1 hp'.2 w h1).mono fun e w' ⟨h4, k, os, h5⟩ => ⟨h4, ?_⟩
    subst h5
    refine ⟨rfl, rfl, rfl, ?_, fun j hj => ?_⟩
    · show w.heap.size ≤ (w.heap ++ os).size
      rw [Array.size_append]; exact Nat.le_add_right _ _
    · show (w.heap ++ os)[j]? = w.heap[j]?
      exact Array.getElem?_append_left hj
set_option maxHeartbeats 1000000 in
set_option maxRecDepth 100000 in
theorem Tryd.tz64 (w : World) (hcell : w.cell? ⟨5, 15, none⟩ = some (.int .u8 4)) : Calls Tryd.prog 74 #[.int .u64 16] w fun e w' => e = .returned (.int .i64 4) ∧ w' = w := by
  have key : IntKind.u64.wrap (bits BinOp.and IntKind.u64 16 (IntKind.u64.wrap (-16)) * 285870213051353865) / 288230376151711744 = ((15 : Nat) : Int) := by kernel_rfl
  have hi : (15 : Nat) < 64 := by decide
  go_enter Tryd.func74, Tryd.ntmps74
  go_wp2_with (simp only [key])
  go_ret
  exact ⟨rfl, rfl⟩
theorem Tryd.tz16 (w : World) (hcell : w.cell? ⟨5, 15, none⟩ = some (.int .u8 4)) : Calls Tryd.prog 60 #[.int .u64 16] w fun e w' => e = .returned (.int .i64 4) ∧ w' = w := by
  have c64 := Tryd.tz64 w hcell
  go_enter Tryd.func60, Tryd.ntmps60
  go_wp2_with (go_at_call 74; refine c64.mono ?_; rintro e w' ⟨rfl, hw'⟩; rw [hw'])
  go_ret
  exact ⟨rfl, rfl⟩
def Tryd.tz.c : Ctr En.Dop.D2 := ⟨60, 0, ⟨[.fd (.int .u64)], []⟩, ⟨[.fd (.int .i64)], []⟩, true, .pre (fun x => decide (x.1.1 = 16)) fun _ => ((4, ()), ())⟩
theorem Tryd.tz.holds : Tryd.tz.c.Holds Tryd.prog :=
  lib_ctr (by kernel_rfl) rfl rfl (A := fun x => #[.int .u64 x.1.1]) (fun _ => ⟨_, rfl, fun _ => rfl⟩) (B := fun y => .int .i64 y.1.1) (fun _ => ⟨_, rfl, fun _ => rfl, trivial, trivial⟩)
    (fun x y h w D hiv => by
      obtain ⟨h1, rfl⟩ := h
      obtain ⟨_, _, _, h2⟩ := Dop_inv hiv
      have e : x.1.1 = 16 := of_decide_eq_true h1
      rw [e]
      exact (Tryd.tz16 w h2).mono fun e w' ⟨h4, h5⟩ => ⟨h4, by rw [h5]; exact Below.refl _ _⟩)
end Go.Proofs
