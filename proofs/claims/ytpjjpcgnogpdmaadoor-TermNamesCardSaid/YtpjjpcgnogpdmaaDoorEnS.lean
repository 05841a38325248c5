/-
  slices.Sort at numbers: a contract of the library over a row that is known by a name; and insertion sort, plain, which tells the same.
-/
import Derived.Test.YtpjjpcgnogpdmaaDoorEnL
import Derived.Sort.OwnSortedInts
namespace Go.En
open Go.RowKit

/-- A number laid into a list that rises. -/
def ins1 (x : Int) : List Int → List Int
  | [] => [x]
  | y :: r => if x ≤ y then x :: y :: r else y :: ins1 x r
/-- A list sorted. -/
def isort : List Int → List Int
  | [] => []
  | x :: r => ins1 x (isort r)
theorem ins1_perm (x : Int) : ∀ l, (ins1 x l).Perm (x :: l)
  | [] => List.Perm.refl _
  | y :: r => by
    unfold ins1
    split
    · exact List.Perm.refl _
    · exact ((ins1_perm x r).cons y).trans (List.Perm.swap x y r)
theorem isort_perm : ∀ l, (isort l).Perm l
  | [] => List.Perm.refl _
  | x :: r => (ins1_perm x _).trans ((isort_perm r).cons x)
theorem ins1_mem {x z : Int} {l : List Int} : z ∈ ins1 x l ↔ z = x ∨ z ∈ l := by
  rw [(ins1_perm x l).mem_iff, List.mem_cons]
theorem ins1_up (x : Int) : ∀ l : List Int, l.Pairwise (· ≤ ·) → (ins1 x l).Pairwise (· ≤ ·)
  | [], _ => List.pairwise_singleton _ _
  | y :: r, h => by
    rw [List.pairwise_cons] at h
    unfold ins1
    split
    · rename_i hxy
      refine List.pairwise_cons.2 ⟨fun z hz => ?_, List.pairwise_cons.2 h⟩
      rcases List.mem_cons.1 hz with rfl | hz
      · exact hxy
      · exact Int.le_trans hxy (h.1 z hz)
    · rename_i hxy
      refine List.pairwise_cons.2 ⟨fun z hz => ?_, ins1_up x r h.2⟩
      rcases ins1_mem.1 hz with rfl | hz
      · omega
      · exact h.1 z hz
theorem isort_up : ∀ l, (isort l).Pairwise (· ≤ ·)
  | [] => List.Pairwise.nil
  | x :: r => ins1_up x _ (isort_up r)
/-- Two lists of the same numbers that both rise are one. -/
theorem up_unique : ∀ {a b : List Int}, a.Perm b → a.Pairwise (· ≤ ·) → b.Pairwise (· ≤ ·) → a = b
  | [], b, h, _, _ => (List.Perm.nil_eq h)
  | x :: r, [], h, _, _ => absurd h.length_eq (by simp)
  | x :: r, y :: s, h, h1, h2 => by
    rw [List.pairwise_cons] at h1 h2
    have e : x = y := by
      have hx : x ∈ y :: s := h.mem_iff.1 List.mem_cons_self
      have hy : y ∈ x :: r := h.mem_iff.2 List.mem_cons_self
      rcases List.mem_cons.1 hx with e | hx
      · exact e
      · rcases List.mem_cons.1 hy with e | hy
        · exact e.symm
        · have := h1.1 y hy; have := h2.1 x hx; omega
    subst e
    rw [up_unique ((List.perm_cons x).1 h) h1.2 h2.2]
theorem mergeSort_isort (l : List Int) : (l.mergeSort fun x y => decide (x ≤ y)) = isort l := by
  refine up_unique ((List.mergeSort_perm l _).trans (isort_perm l).symm) ?_ (isort_up l)
  have h := List.pairwise_mergeSort (le := fun x y : Int => decide (x ≤ y)) (fun a b c h1 h2 => by simp only [decide_eq_true_eq] at h1 h2 ⊢; omega) (fun a b => by simp only [Bool.or_eq_true, decide_eq_true_eq]; omega) l
  exact h.imp fun h => by simpa using h

/-- Is there anything in a list? -/
def someB {α : Type} : List α → Bool
  | [] => false
  | _ :: _ => true

def okSort {α : Type} (l : List α) : Bool := someB l && decide (l.length < 4611686018427387904)

section
variable {S : Sig} {P : Program}
/-- A row's box. -/
@[reducible] def rowB (σ E : Nat) : Box := ⟨0, 0, [.own σ E], true⟩
theorem sortCtr {f σ E : Nat} (hb : bodied P f = true) (out : S.T σ → Int) (inn : Int → S.T σ) (hemb : ∀ x, S.enc σ x = [.int .i64 (out x)]) (hio : ∀ z, out (inn z) = z)
    (hc : ∀ (blk cap : Nat) (zs : List Int) (w : World), Sort.Holds (Value.int .i64) w blk 0 zs.toArray → blk < w.heap.size → zs.length < 4611686018427387904 → Calls P f #[.slice (some ⟨blk, 0, none⟩) zs.length cap] w fun e w' =>
      e = .returned (.tuple #[]) ∧ ∃ n os, w' = Sort.grow (Sort.putRow (Value.int .i64) (Sort.ahead w n) blk 0 (zs.mergeSort fun x y => decide (x ≤ y)).toArray) os) :
    Ctr.Holds (S := S) P ⟨f, 1, ⟨[.rw 0], [rowB σ E]⟩, ⟨[], [rowB σ E]⟩, false, .pre (fun x => okSort x.2.1.1) fun x => ((), ((((isort (x.2.1.1.map out)).map inn), ()), ()))⟩ := by
  refine ⟨hb, rfl, fun h => (by cases h), fun x y hxy w D β vs o n he hg hon hn hiv => ?_⟩
  obtain ⟨x1, ⟨⟨l, x3⟩, x4⟩⟩ := x
  simp only [Out.gives] at hxy
  obtain ⟨hp, rfl⟩ := hxy
  have henc : Spec.enc (S := S) ⟨[.rw 0], [rowB σ E]⟩ (x1, ((l, x3), x4)) 1 = ([.tr 0], [(0, .tr σ E l)], 1) := rfl
  rw [henc] at he
  simp only [Prod.mk.injEq] at he
  obtain ⟨rfl, rfl, rfl⟩ := he
  obtain ⟨h3, us, h4, h5⟩ := hg.own 0 (.tr σ E l) rfl
  have hfl : ∀ m : List (S.T σ), S.flat σ m = m.map fun x => FC.int .i64 (out x) := by
    intro m
    induction m with
    | nil => rfl
    | cons x r ih => simp only [Sig.flat, List.flatMap_cons, hemb] at ih ⊢; rw [ih]; rfl
  have hargs : (denL β [SV.tr 0]).toArray = #[.slice ((β 0).b.map fun b => ⟨b, 0, none⟩) l.length (β 0).cap] := by simp [denL, SV.den, h3]
  rw [hargs]
  have hsz1 : l ≠ [] → S.sz σ = 1 := fun hl => by
    cases l with
    | nil => exact absurd rfl hl
    | cons x r => rw [← S.enc_length σ x, hemb]; rfl
  have hus : us = (l.map out).map (Value.int .i64) := by
    rw [hfl] at h5
    apply List.ext_getElem?
    intro j
    by_cases hj : j < l.length
    · have hju : j < us.length := by rw [← h5.1, List.length_map]; exact hj
      have e1 := h5.2 j (.int .i64 (out l[j])) us[j] (by rw [List.getElem?_map, List.getElem?_eq_getElem hj]; rfl) (List.getElem?_eq_getElem hju)
      have e2 : us[j] = .int .i64 (out l[j]) := by
        generalize us[j] = u at e1 ⊢
        cases e1
        rfl
      rw [List.getElem?_eq_getElem hju, e2]
      simp [List.getElem?_eq_getElem hj]
    · have hju : us.length ≤ j := by rw [← h5.1, List.length_map]; omega
      rw [List.getElem?_eq_none hju, List.getElem?_eq_none (by simp; omega)]
  obtain ⟨hp1, hp2⟩ := Bool.and_eq_true_iff.1 hp
  have hl : l ≠ [] := fun e => by subst e; cases hp1
  have hsz := hsz1 hl
  have hlen : 0 < l.length := List.length_pos_iff.2 hl
  rw [hsz] at h4
  rcases h4.2 with ⟨_, hz⟩ | ⟨g, cap, cur, h6, h7, h8, h9, h10, h11, h12⟩
  · omega
  have hb0 : (β 0).b = some g := by
    cases hq : (β 0).b with
    | none => rw [hq] at h6; cases h6
    | some k => rw [hq] at h6; simp only [Option.map_some, Value.slice.injEq, Option.some.injEq, Addr.mk.injEq, and_true, true_and] at h6; rw [h6.1]
  have hcap : (β 0).cap = cap := by simp only [Value.slice.injEq] at h6; exact h6.2.2
  rw [hb0, hcap]
  have hlo : (l.map out).length = l.length := List.length_map _
  have h13 := hc g cap (l.map out) w (holds_of_blockI h8 (by rw [hlo]; rw [Nat.mul_one] at h12; rw [h12, hus])) (hg.lt 0 _ g rfl (.inl hb0)) (by rw [hlo]; exact of_decide_eq_true hp2)
  rw [hlo] at h13
  refine h13.mono fun e w' ⟨k1, m, os, k2⟩ => ?_
  subst k2
  rw [mergeSort_isort]
  have hil : (isort (l.map out)).length = (l.map out).length := (isort_perm _).length_eq
  have hgr := grownBy_sortedI (w := w) (g := g) (n := m) (os := os) (isort (l.map out)).toArray
  have hrow := ownsRow_sortedI (w := w) (base := 0) (n := m) (os := os) (ss := l.map out) (ts := isort (l.map out)) hil h7 h8 (by rw [hlo]; exact h9) h10 h11
  have hg' := hg.turn (w' := Sort.grow (Sort.putRow (Value.int .i64) (Sort.ahead w m) g 0 (isort (l.map out)).toArray) os) (i := 0) (k := g) (b := .tr σ E l) (c := .tr σ E ((isort (l.map out)).map inn)) rfl (.inl hb0) trivial hgr.os hgr.tape hgr.output hgr.size
    (fun j hj hne => hgr.block j hj (fun e => hne (Option.some.inj e))) (by
      refine ⟨by rw [h3, List.length_map, hil, hlo], (isort (l.map out)).map (Value.int .i64), ?_, ?_⟩
      · rw [hsz, List.length_map, hil, hb0, hcap]; exact hrow
      · rw [hfl]
        refine ⟨by simp, fun i f v hf hv => ?_⟩
        rw [List.getElem?_map, List.getElem?_map] at hf
        rw [List.getElem?_map] at hv
        cases hgi : (isort (l.map out))[i]? with
        | none => rw [hgi] at hf; simp at hf
        | some a =>
          rw [hgi] at hf hv
          simp only [Option.map_some, Option.some.injEq, hio] at hf hv
          subst hf hv
          exact .int .i64 a)
  exact ⟨D, β, [], [(0, .tr σ E ((isort (l.map out)).map inn))], 1, rfl, by rw [k1]; simp [resSV, SV.den, denL], fun _ _ => rfl, hg', trivial, by omega⟩
/-- A row of numbers cloned: a new row. -/
theorem cloneCtr {f σ E : Nat} (hb : bodied P f = true) (out : S.T σ → Int) (hemb : ∀ x, S.enc σ x = [.int .i64 (out x)]) (hsz : S.sz σ = 1)
    (hN : ∀ (n c : Nat) (w : World), Calls P f #[.slice none n c] w fun e w' => e = .returned (.slice none 0 0) ∧ w' = w)
    (hZ : ∀ (a : Addr) (c : Nat) (w : World), Calls P f #[.slice (some a) 0 c] w fun e w' => ∃ v', e = .returned v' ∧ w'.ownsRow w.heap.size E 1 v' 0 [] ∧ v' ≠ .slice none 0 0 ∧ Below w.heap.size w w')
    (hC : ∀ (b off n c : Nat) (zs : List Int) (w : World), n ≤ zs.length → n * 8 ≤ 140737488355328 → (∀ j, j < zs.length → w.cell? ⟨b, off + j, none⟩ = some (.int .i64 (zs.getD j 0))) →
      Calls P f #[.slice (some ⟨b, off, none⟩) n c] w fun e w' => ∃ v', e = .returned v' ∧ w'.ownsRow w.heap.size E 1 v' n ((zs.take n).map (Value.int .i64)) ∧ v' ≠ .slice none 0 0 ∧ Below w.heap.size w w') :
    Ctr.Holds (S := S) P ⟨f, 0, ⟨[.fd (.sl σ)], []⟩, ⟨[.own σ E], []⟩, false, .pre (fun x => decide (x.1.1.length * 8 ≤ 140737488355328)) fun x => ((x.1.1, ()), ())⟩ := by
  refine ⟨hb, rfl, fun h => (by cases h), fun x y hxy w D β vs o n he hg hon hn hiv => ?_⟩
  obtain ⟨⟨l, x1⟩, x2⟩ := x
  simp only [Out.gives] at hxy
  obtain ⟨hp, rfl⟩ := hxy
  have henc : Spec.enc (S := S) ⟨[.fd (.sl σ)], []⟩ ((l, x1), x2) 0 = ([.h 0], [(0, .sl σ l)], 1) := rfl
  rw [henc] at he
  simp only [Prod.mk.injEq] at he
  obtain ⟨rfl, rfl, rfl⟩ := he
  obtain ⟨h3, h4⟩ := hg.own 0 (.sl σ l) rfl
  have hfl : ∀ m : List (S.T σ), S.flat σ m = m.map fun x => FC.int .i64 (out x) := by
    intro m
    induction m with
    | nil => rfl
    | cons x r ih => simp only [Sig.flat, List.flatMap_cons, hemb] at ih ⊢; rw [ih]; rfl
  have hargs : (denL β [SV.h 0]).toArray = #[(β 0).sl] := by simp [denL, SV.den]
  rw [hargs]
  have key : Calls P f #[(β 0).sl] w fun e w' => ∃ v', e = .returned v' ∧ w'.ownsRow w.heap.size E 1 v' l.length ((l.map out).map (Value.int .i64)) ∧ Below w.heap.size w w' := by
    generalize (β 0).sl = v at h4 ⊢
    cases h4 with
    | nil _ a c =>
      cases a with
      | none => exact (hN 0 c w).mono fun e w' ⟨e1, e2⟩ => ⟨_, e1, ⟨rfl, .inl ⟨rfl, rfl⟩⟩, by rw [e2]; exact Below.refl _ _⟩
      | some a => exact (hZ a c w).mono fun e w' ⟨v', e1, e2, _, e3⟩ => ⟨v', e1, e2, e3⟩
    | sl _ _ b off c us hD hlc hc hr =>
      refine (hC b off l.length c (l.map out) w (by simp) (of_decide_eq_true hp) (fun j hj => ?_)).mono fun e w' ⟨v', e1, e2, _, e3⟩ => ⟨v', e1, ?_, e3⟩
      · have hj' : j < l.length := by simpa using hj
        have e1 : (S.flat σ l)[j]? = some (.int .i64 (out l[j])) := by rw [hfl, List.getElem?_map, List.getElem?_eq_getElem hj']; rfl
        rw [hc j _ e1]
        have e2 := hr j _ e1
        generalize us j = u at e2 ⊢
        cases e2
        simp [List.getD, List.getElem?_map, List.getElem?_eq_getElem hj']
      · rw [List.take_of_length_le (by simp)] at e2; exact e2
  refine key.mono fun e w' ⟨v', e1, e2, e3⟩ => ?_
  have hg0 := hg.step e3
  have hg1 : GH w (blocksOf [(0, Own.sl σ l)] β) D D ([] : List (Nat × Own S)) (· < 0) β w' :=
    ⟨fun i b h => by simp [lk_nil] at h, fun i b h => by simp [lk_nil] at h, fun i j b c k h => by simp [lk_nil] at h, fun i b k h => by simp [lk_nil] at h, fun i b k h => by simp [lk_nil] at h, fun i b k h => by simp [lk_nil] at h, hg0.dlt, hg0.dom, hg0.fr, hg0.sub⟩
  have fin : ∀ (g : Option Nat) (cap : Nat), v' = .slice (g.map fun b => ⟨b, 0, none⟩) l.length cap → (∀ k, g = some k → w.heap.size ≤ k ∧ k < w'.heap.size) → w'.ownsRow 0 E (S.sz σ) v' l.length ((l.map out).map (Value.int .i64)) → CPost (S := S) ⟨f, 0, ⟨[.fd (.sl σ)], []⟩, ⟨[.own σ E], []⟩, false, .pre (fun x => decide (x.1.1.length * 8 ≤ 140737488355328)) fun x => ((x.1.1, ()), ())⟩ ((l, ()), ()) w D β [(0, .sl σ l)] e w' := by
    intro g cap hv hk hro
    have hme : ∀ k, Nm.has ⟨g, l.length, cap, undef⟩ k → g = some k := fun k hk => by rwa [Nm.has_iff fun _ => Nm.sub_undef] at hk
    obtain ⟨β', b1, b2, b3⟩ := hg1.name (b := .tr σ E l) (nm := ⟨g, l.length, cap, undef⟩) (n := 0) (by omega) trivial (fun β' _ _ => ⟨rfl, _, by rw [← hv]; exact hro, by
        rw [hfl]
        refine ⟨by simp, fun i f v hf hv => ?_⟩
        rw [List.getElem?_map] at hf
        rw [List.getElem?_map, List.getElem?_map] at hv
        cases hgi : l[i]? with
        | none => rw [hgi] at hf; simp at hf
        | some a =>
          rw [hgi] at hf hv
          simp only [Option.map_some, Option.some.injEq] at hf hv
          subst hf hv
          exact .int .i64 _⟩)
      (fun k h => .inl (hk k (hme k h)).1) (fun k h hd => by have h1 := (hk k (hme k h)).1; have h2 := hg.dlt k hd; omega) (fun i c k h => by simp [lk_nil] at h) (fun k h => (hk k (hme k h)).2)
    refine ⟨D, β', [.tr 0], [(0, .tr σ E l)], 1, rfl, ?_, fun i hi => absurd hi (Nat.not_lt_zero i), by rw [lt_or_eq] at b3; exact b3, ⟨Nat.zero_lt_one, trivial⟩, Nat.zero_le _⟩
    rw [e1, hv]
    simp [resSV, SV.den, b2]
  rcases e2.2 with ⟨q1, q2⟩ | ⟨g, cap, cur, q1, q2, q3, q4⟩
  · refine fin none 0 (by rw [q1, q2]; rfl) (fun k h => by cases h) ⟨?_, .inl ⟨q1, q2⟩⟩
    rw [q2] at e2 ⊢
    simpa using e2.1
  · refine fin (some g) cap q1 (fun k h => ?_) ?_
    · obtain rfl := Option.some.inj h
      refine ⟨q2, ?_⟩
      apply Classical.byContradiction
      intro hn
      rw [Array.getElem?_eq_none (by omega)] at q3
      cases q3
    · rw [hsz]; exact ⟨e2.1, .inr ⟨g, cap, cur, q1, Nat.zero_le _, q3, q4⟩⟩
end
end Go.En
