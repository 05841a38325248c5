/-
  strings.Builder and strings.Join: contracts of the library over a builder that lies in a box, and over a row of texts.
-/
import Derived.Test.YtfonahhlkanabaaDoorEnL
import Derived.Lib.Join
import Derived.Lib.Builder
namespace Go.En
open Go.RowKit

section
variable {S : Sig} {P : Program}

/-- A builder's box: not written yet; written. -/
@[reducible] def bld0 (T σ E : Nat) : Box := ⟨0, T, [.np, .own σ E], false⟩
@[reducible] def bld1 (T σ E : Nat) : Box := ⟨0, T, [.al 0 0, .own σ E], false⟩
theorem copyCheck0 {f T σ E : Nat} (hb : bodied P f = true)
    (hc : ∀ b w, w.cell? ⟨b, 0, none⟩ = some (.pointer none) → w.shape? b = some (T, 2) → w.frozen? ⟨b, 0, none⟩ = false → Calls P f #[.pointer (some ⟨b, 0, none⟩)] w fun e w' => e = .returned (.tuple #[]) ∧ w' = w.setCell ⟨b, 0, none⟩ (.pointer (some ⟨b, 0, none⟩))) :
    Ctr.Holds (S := S) P ⟨f, 1, ⟨[.al 0 0], [bld0 T σ E]⟩, ⟨[], [bld1 T σ E]⟩, false, .tot fun x => ((), (((), x.2.1.2.1, ()), ()))⟩ := by
  refine ⟨hb, rfl, fun h => (by cases h), fun x y hxy w D β vs o n he hg hon hn hiv => ?_⟩
  obtain ⟨x1, ⟨⟨x2, l, x3⟩, x4⟩⟩ := x
  simp only [Out.gives] at hxy
  subst hxy
  have henc : Spec.enc (S := S) ⟨[.al 0 0], [bld0 T σ E]⟩ (x1, ((x2, l, x3), x4)) 1 = ([.ptr 0 0], [(0, .blk T [.v (.pointer none), .tr 1]), (1, .tr σ E l)], 2) := rfl
  rw [henc] at he
  simp only [Prod.mk.injEq] at he
  obtain ⟨rfl, rfl, rfl⟩ := he
  obtain ⟨b, h1, h2⟩ := hg.own 0 (.blk T [.v (.pointer none), .tr 1]) rfl
  have hblk : (β 0).blk = b := by simp [Nm.blk, h1]
  have hargs : (denL β [SV.ptr 0 0]).toArray = #[.pointer (some ⟨b, 0, none⟩)] := by simp [denL, SV.den, hblk]
  rw [hargs]
  have hcell : w.cell? ⟨b, 0, none⟩ = some (.pointer none) := by rw [cell_of_row w b 0 _ _ _ h2]; simp [denL, SV.den]
  refine (hc b w hcell (by simp [World.shape?, h2, denL]) (by simp [World.frozen?, h2])).mono fun e w' ⟨h3, h4⟩ => ?_
  subst h4
  have hlt : b < w.heap.size := (Array.getElem?_eq_some_iff.1 h2).1
  have hg' := hg.turn (w' := w.setCell ⟨b, 0, none⟩ (.pointer (some ⟨b, 0, none⟩))) (i := 0) (k := b) (b := .blk T [.v (.pointer none), .tr 1]) (c := .blk T [.ptr 0 0, .tr 1]) rfl (.inl h1) (by simp [Own.on, onL, SV.on]) rfl rfl rfl
    (by simp [World.setCell]) (fun j hj hne => Below.heap_setCell _ _ _ _ hne) ⟨b, h1, by rw [heap_setCell_same w b 0 _ _ _ h2]; simp [denL, SV.den, hblk]⟩
  exact ⟨D, β, [], [(0, .blk T [.ptr 0 0, .tr 1]), (1, .tr σ E l)], 2, rfl, by rw [h3]; simp [resSV, SV.den, denL], fun _ _ => rfl, hg', trivial, by omega⟩
theorem copyCheck1 {f T σ E : Nat} (hb : bodied P f = true)
    (hc : ∀ b w, w.cell? ⟨b, 0, none⟩ = some (.pointer (some ⟨b, 0, none⟩)) → Calls P f #[.pointer (some ⟨b, 0, none⟩)] w fun e w' => e = .returned (.tuple #[]) ∧ w' = w) :
    Ctr.Holds (S := S) P ⟨f, 1, ⟨[.al 0 0], [bld1 T σ E]⟩, ⟨[], [bld1 T σ E]⟩, false, .tot fun x => ((), (((), x.2.1.2.1, ()), ()))⟩ := by
  refine ⟨hb, rfl, fun h => (by cases h), fun x y hxy w D β vs o n he hg hon hn hiv => ?_⟩
  obtain ⟨x1, ⟨⟨x2, l, x3⟩, x4⟩⟩ := x
  simp only [Out.gives] at hxy
  subst hxy
  have henc : Spec.enc (S := S) ⟨[.al 0 0], [bld1 T σ E]⟩ (x1, ((x2, l, x3), x4)) 1 = ([.ptr 0 0], [(0, .blk T [.ptr 0 0, .tr 1]), (1, .tr σ E l)], 2) := rfl
  rw [henc] at he
  simp only [Prod.mk.injEq] at he
  obtain ⟨rfl, rfl, rfl⟩ := he
  obtain ⟨b, h1, h2⟩ := hg.own 0 (.blk T [.ptr 0 0, .tr 1]) rfl
  have hblk : (β 0).blk = b := by simp [Nm.blk, h1]
  have hargs : (denL β [SV.ptr 0 0]).toArray = #[.pointer (some ⟨b, 0, none⟩)] := by simp [denL, SV.den, hblk]
  rw [hargs]
  have hcell : w.cell? ⟨b, 0, none⟩ = some (.pointer (some ⟨b, 0, none⟩)) := by rw [cell_of_row w b 0 _ _ _ h2]; simp [denL, SV.den, hblk]
  refine (hc b w hcell).mono fun e w' ⟨h3, h4⟩ => ?_
  subst h4
  exact ⟨D, β, [], [(0, .blk T [.ptr 0 0, .tr 1]), (1, .tr σ E l)], 2, rfl, by rw [h3]; simp [resSV, SV.den, denL], fun _ _ => rfl, hg, trivial, by omega⟩
/-- The text of what was written; the builder is not written any more. -/
theorem builderString {f T σ E : Nat} (hb : bodied P f = true) (hby : isBy (S.fds σ) = true)
    (hc : ∀ b g cap cur l w, l ≠ [] → w.heap[b]? = some (.cells #[.pointer (some ⟨b, 0, none⟩), .slice (some ⟨g, 0, none⟩) l.length cap] T (0, 0)) → w.heap[g]? = some (.cells cur E (0, 0)) → l.length ≤ cap → cap ≤ maxLen → cur.size = cap → cur.toList.take l.length = (l.map fun c => Value.int .u8 (c.toNat : Int)) →
      Calls P f #[.pointer (some ⟨b, 0, none⟩)] w fun e w' => e = .returned (.string ⟨⟨l⟩⟩) ∧ w'.os = w.os ∧ w'.tape = w.tape ∧ w'.output = w.output ∧ w.heap.size ≤ w'.heap.size ∧ (∀ j, j < w.heap.size → j ≠ g → w'.heap[j]? = w.heap[j]?)) :
    Ctr.Holds (S := S) P ⟨f, 1, ⟨[.al 0 0], [bld1 T σ E]⟩, ⟨[.fd .str], []⟩, false, .pre (fun x => decide (0 < x.2.1.2.1.length) && x.2.1.2.1.all fun b => decide (0 ≤ byX S σ b ∧ byX S σ b < 256)) fun x => (((x.2.1.2.1.map fun b => (byX S σ b).toNat.toUInt8), ()), ())⟩ := by
  refine ⟨hb, rfl, fun h => (by cases h), fun x y hxy w D β vs o n he hg hon hn hiv => ?_⟩
  obtain ⟨x1, ⟨⟨x2, l, x3⟩, x4⟩⟩ := x
  simp only [Out.gives] at hxy
  obtain ⟨hp, rfl⟩ := hxy
  simp only [Bool.and_eq_true, decide_eq_true_eq] at hp
  obtain ⟨hp1, hp2⟩ := hp
  have henc : Spec.enc (S := S) ⟨[.al 0 0], [bld1 T σ E]⟩ (x1, ((x2, l, x3), x4)) 1 = ([.ptr 0 0], [(0, .blk T [.ptr 0 0, .tr 1]), (1, .tr σ E l)], 2) := rfl
  rw [henc] at he
  simp only [Prod.mk.injEq] at he
  obtain ⟨rfl, rfl, rfl⟩ := he
  obtain ⟨b, h1, h2⟩ := hg.own 0 (.blk T [.ptr 0 0, .tr 1]) rfl
  obtain ⟨h3, us, h4, h5⟩ := hg.own 1 (.tr σ E l) rfl
  have hblk : (β 0).blk = b := by simp [Nm.blk, h1]
  have hargs : (denL β [SV.ptr 0 0]).toArray = #[.pointer (some ⟨b, 0, none⟩)] := by simp [denL, SV.den, hblk]
  rw [hargs]
  have hsz : S.sz σ = 1 := by
    cases l with
    | nil => simp at hp1
    | cons x r => rw [← S.enc_length σ x, by_enc hby]; rfl
  rw [hsz] at h4
  have h4' := h4
  obtain ⟨g, cap, cur, h6, _, h8, h9, h10, h11, h12⟩ : ∃ g cap cur, Value.slice ((β 1).b.map fun b => ⟨b, 0, none⟩) l.length (β 1).cap = .slice (some ⟨g, 0, none⟩) l.length cap ∧ 0 ≤ g ∧ w.heap[g]? = some (.cells cur E (0, 0)) ∧ l.length ≤ cap ∧ cap ≤ maxLen ∧ cur.size = cap * 1 ∧ cur.toList.take (l.length * 1) = us := by
    rcases h4'.2 with ⟨_, hz⟩ | ⟨g, cap, cur, r⟩
    · omega
    · exact ⟨g, cap, cur, r⟩
  have hb1 : (β 1).b = some g := by
    cases hq : (β 1).b with
    | none => rw [hq] at h6; cases h6
    | some k => rw [hq] at h6; simp only [Option.map_some, Value.slice.injEq, Option.some.injEq, Addr.mk.injEq, and_true, true_and] at h6; rw [h6.1]
  have hcap : (β 1).cap = cap := by simp only [Value.slice.injEq] at h6; exact h6.2.2
  let l' : List UInt8 := l.map fun b => (byX S σ b).toNat.toUInt8
  have hl' : l'.length = l.length := List.length_map _
  have hus : us = l'.map fun c => Value.int .u8 (c.toNat : Int) := by
    have hfl : ∀ m : List (S.T σ), S.flat σ m = m.map fun x => FC.int .u8 (byX S σ x) := by
      intro m
      induction m with
      | nil => rfl
      | cons x r ih => simp only [Sig.flat, List.flatMap_cons, by_enc hby] at ih ⊢; rw [ih]; rfl
    rw [hfl] at h5
    apply List.ext_getElem?
    intro j
    by_cases hj : j < l.length
    · have hju : j < us.length := by rw [← h5.1, List.length_map]; exact hj
      have e1 := h5.2 j (.int .u8 (byX S σ l[j])) us[j] (by rw [List.getElem?_map, List.getElem?_eq_getElem hj]; rfl) (List.getElem?_eq_getElem hju)
      have e2 : us[j] = .int .u8 (byX S σ l[j]) := by
        generalize us[j] = u at e1 ⊢
        cases e1
        rfl
      rw [List.getElem?_eq_getElem hju, e2]
      have hr : 0 ≤ byX S σ l[j] ∧ byX S σ l[j] < 256 := of_decide_eq_true (List.all_eq_true.1 hp2 _ (List.getElem_mem hj))
      have e3 : (l'.map fun c => Value.int .u8 (c.toNat : Int))[j]? = some (.int .u8 (((byX S σ l[j]).toNat.toUInt8).toNat : Int)) := by
        simp only [l', List.getElem?_map, List.getElem?_eq_getElem hj, Option.map_some]
      rw [e3]
      have e4 : (((byX S σ l[j]).toNat.toUInt8).toNat : Int) = byX S σ l[j] := by
        show ((UInt8.ofNat (byX S σ l[j]).toNat).toNat : Int) = _
        rw [UInt8.toNat_ofNat']
        omega
      rw [e4]
    · have hju : us.length ≤ j := by rw [← h5.1, List.length_map]; omega
      rw [List.getElem?_eq_none hju, List.getElem?_eq_none (by rw [List.length_map, hl']; omega)]
  have hcells : w.heap[b]? = some (.cells #[.pointer (some ⟨b, 0, none⟩), .slice (some ⟨g, 0, none⟩) l'.length cap] T (0, 0)) := by
    rw [h2, hl']
    simp [denL, SV.den, hblk, hb1, h3, hcap]
  have hne : l' ≠ [] := by
    intro e
    rw [e] at hl'
    simp at hl'
    omega
  refine (hc b g cap cur l' w hne hcells h8 (by omega) h10 (by omega) (by rw [hl', ← hus, ← h12, Nat.mul_one])).mono fun e w' ⟨k1, k2, k3, k4, k5, k6⟩ => ?_
  have hg0 : GH w (blocksOf [(0, Own.blk T [.ptr 0 0, .tr 1]), (1, Own.tr σ E l)] β) D D ([] : List (Nat × Own S)) (· < 1) β w' := by
    refine ⟨fun i b hi => by simp [lk_nil] at hi, fun i b hi => by simp [lk_nil] at hi, fun i j b c k hi => by simp [lk_nil] at hi, fun i b k hi => by simp [lk_nil] at hi, fun i b k hi => by simp [lk_nil] at hi, fun i b k hi => by simp [lk_nil] at hi, fun k hk => Nat.lt_of_lt_of_le (hg.dlt k hk) k5, hg.dom, ?_, hg.sub⟩
    refine ⟨k2.trans hg.fr.os, k3.trans hg.fr.tape, k4.trans hg.fr.output, Nat.le_trans hg.fr.size k5, fun j hj hF => ?_⟩
    refine (k6 j hj fun e => hF ?_)
    subst e
    exact ⟨1, .tr σ E l, by simp [lk_cons], .inl hb1⟩
  exact ⟨D, β, [.v (.string ⟨⟨l'⟩⟩)], [], 1, rfl, by rw [k1]; simp [resSV, SV.den], fun _ _ => rfl, hg0, ⟨trivial, trivial⟩, Nat.le_refl _⟩
/-- A row of texts joined. -/
theorem joinCtr {f τ : Nat} (hb : bodied P f = true) (emb : List UInt8 → S.T τ) (out : S.T τ → List UInt8) (hemb : ∀ x, S.enc τ x = [.str (out x)])
    (hc0 : ∀ (a : Option Addr) (c : Nat) (sep : ByteArray) (w : World), Calls P f #[.slice a 0 c, .string sep] w fun e w' => e = .returned (.string ⟨#[]⟩) ∧ w' = w)
    (hc : ∀ (bk o c : Nat) (xs : List ByteArray) (sep : ByteArray) (w : World), (∀ (j : Nat) x, xs[j]? = some x → w.cell? ⟨bk, o + j, none⟩ = some (.string x)) → bk < w.heap.size → xs.length ≤ 140737488355328 → xs.length ≤ c →
      (Lib.join (xs.map (·.data.toList)) sep.data.toList).length ≤ 140737488355328 → Calls P f #[.slice (some ⟨bk, o, none⟩) xs.length c, .string sep] w fun e w' => e = .returned (.string ⟨(Lib.join (xs.map (·.data.toList)) sep.data.toList).toArray⟩) ∧ Below w.heap.size w w') :
    Ctr.Holds (S := S) P ⟨f, 0, ⟨[.fd (.sl τ), .fd .str], []⟩, ⟨[.fd .str], []⟩, false, .pre (fun x => decide (x.1.1.length ≤ 140737488355328 ∧ (Lib.join (x.1.1.map out) x.1.2.1).length ≤ 140737488355328)) fun x => ((Lib.join (x.1.1.map out) x.1.2.1, ()), ())⟩ := by
  refine ⟨hb, rfl, fun h => (by cases h), fun x y hxy w D β vs o n he hg hon hn hiv => ?_⟩
  obtain ⟨⟨l, sep, x3⟩, x4⟩ := x
  simp only [Out.gives] at hxy
  obtain ⟨hp, rfl⟩ := hxy
  obtain ⟨hp1, hp2⟩ := of_decide_eq_true hp
  have henc : Spec.enc (S := S) ⟨[.fd (.sl τ), .fd .str], []⟩ ((l, sep, x3), x4) 0 = ([.h 0, .v (.string ⟨⟨sep⟩⟩)], [(0, .sl τ l)], 1) := rfl
  rw [henc] at he
  simp only [Prod.mk.injEq] at he
  obtain ⟨rfl, rfl, rfl⟩ := he
  obtain ⟨h1, h2⟩ := hg.own 0 (.sl τ l) rfl
  have hargs : (denL β [SV.h 0, .v (.string ⟨⟨sep⟩⟩)]).toArray = #[(β 0).sl, .string ⟨⟨sep⟩⟩] := by simp [denL, SV.den]
  rw [hargs]
  have hfl : ∀ m : List (S.T τ), S.flat τ m = m.map fun x => FC.str (out x) := by
    intro m
    induction m with
    | nil => rfl
    | cons x r ih => simp only [Sig.flat, List.flatMap_cons, hemb] at ih ⊢; rw [ih]; rfl
  have hfin : ∀ e w', e = Ending.returned (.string ⟨⟨Lib.join (l.map out) sep⟩⟩) → Below w.heap.size w w' → CPost (S := S) ⟨f, 0, ⟨[.fd (.sl τ), .fd .str], []⟩, ⟨[.fd .str], []⟩, false, .pre (fun x => decide (x.1.1.length ≤ 140737488355328 ∧ (Lib.join (x.1.1.map out) x.1.2.1).length ≤ 140737488355328)) fun x => ((Lib.join (x.1.1.map out) x.1.2.1, ()), ())⟩ ((Lib.join (l.map out) sep, ()), ()) w D β [(0, .sl τ l)] e w' := by
    intro e w' h5 h6
    have hg0 : GH w (blocksOf [(0, Own.sl τ l)] β) D D ([] : List (Nat × Own S)) (· < 0) β w' := by
      refine ⟨fun i b hi => by simp [lk_nil] at hi, fun i b hi => by simp [lk_nil] at hi, fun i j b c k hi => by simp [lk_nil] at hi, fun i b k hi => by simp [lk_nil] at hi, fun i b k hi => by simp [lk_nil] at hi, fun i b k hi => by simp [lk_nil] at hi, fun k hk => Nat.lt_of_lt_of_le (hg.dlt k hk) h6.size, hg.dom, ?_, hg.sub⟩
      exact ⟨h6.os.trans hg.fr.os, h6.tape.trans hg.fr.tape, h6.output.trans hg.fr.output, Nat.le_trans hg.fr.size h6.size, fun j hj _ => h6.block j hj⟩
    exact ⟨D, β, [.v (.string ⟨⟨Lib.join (l.map out) sep⟩⟩)], [], 0, rfl, by rw [h5]; simp [resSV, SV.den], fun _ _ => rfl, hg0, ⟨trivial, trivial⟩, Nat.le_refl _⟩
  generalize (β 0).sl = v at h2 ⊢
  cases h2 with
  | nil _ a c =>
    refine (hc0 a c ⟨⟨sep⟩⟩ w).mono fun e w' ⟨h5, h6⟩ => ?_
    subst h6
    exact hfin e _ (by rw [h5]; rfl) (Below.refl _ _)
  | sl _ _ bk off c us hD hlc hcell hrec =>
    have hx : ∀ (j : Nat) x, (l.map fun x => (⟨⟨out x⟩⟩ : ByteArray))[j]? = some x → w.cell? ⟨bk, off + j, none⟩ = some (.string x) := by
      intro j x hj
      rw [List.getElem?_map] at hj
      cases hl : l[j]? with
      | none => rw [hl] at hj; cases hj
      | some a =>
        rw [hl] at hj
        simp only [Option.map_some, Option.some.injEq] at hj
        have hf : (S.flat τ l)[j]? = some (.str (out a)) := by rw [hfl, List.getElem?_map, hl]; rfl
        have h7 := hrec j _ hf
        rw [hcell j _ hf, ← hj]
        generalize us j = u at h7 ⊢
        cases h7
        rfl
    have hmap : (l.map fun x => (⟨⟨out x⟩⟩ : ByteArray)).map (·.data.toList) = l.map out := by rw [List.map_map]; rfl
    have hlen : (l.map fun x => (⟨⟨out x⟩⟩ : ByteArray)).length = l.length := List.length_map _
    have h8 := hc bk off c (l.map fun x => (⟨⟨out x⟩⟩ : ByteArray)) ⟨⟨sep⟩⟩ w hx (hg.dlt bk hD) (by rw [hlen]; exact hp1) (by rw [hlen]; exact hlc) (by rw [hmap]; exact hp2)
    rw [hlen] at h8
    refine h8.mono fun e w' ⟨h5, h6⟩ => ?_
    rw [hmap] at h5
    exact hfin e _ h5 h6
end
end Go.En
