/-
  Layer 7, plain: units whose functions stand in another order, and whose globals bear other names.
-/
import Derived.Test.YtfonahhlkanabaaLawT
set_option maxRecDepth 20000
set_option maxHeartbeats 800000
namespace Go.Proofs.Law
open Go Go.En Go.Proofs

def nms (fs : List En.Dop.Fnc) : List (List UInt8) := fs.map (·.name)
theorem fnd_has (nm : List UInt8) : ∀ (l : List En.Dop.Fnc) (k : Nat), (∃ f ∈ l, f.name = nm) → 0 ≤ fnd nm l k
  | [], k, h => by obtain ⟨f, hf, _⟩ := h; cases hf
  | f :: r, k, h => by
    simp only [fnd]
    by_cases c : f.name = nm
    · rw [if_pos c]; exact I_nn k
    · rw [if_neg c]
      obtain ⟨g, hg, e⟩ := h
      rcases List.mem_cons.1 hg with h | h
      · subst h; exact absurd e c
      · exact fnd_has nm r (k + 1) ⟨g, h, e⟩
theorem mem_getD {α : Type} {l : List α} {j : Nat} (d : α) (h : j < l.length) : l.getD j d ∈ l := by simp [List.getD, h]
/-- What is found. -/
theorem fnd_of {nm : List UInt8} {fs : List En.Dop.Fnc} (h : 0 ≤ fnd nm fs 0) : fs.getD (fnd nm fs 0).toNat Dop.d4 ∈ fs ∧ (fs.getD (fnd nm fs 0).toNat Dop.d4).name = nm := by
  obtain ⟨-, j, h1, h2, h3⟩ := fnd_name nm fs 0 h
  rw [Nat.zero_add] at h2
  rw [h2, I_nat]
  exact ⟨mem_getD _ h1, h3⟩
theorem uniq_iff (fs : List En.Dop.Fnc) : (∀ j, j < fs.length → fnd (fs.getD j Dop.d4).name fs 0 = I j) ↔ (nms fs).Nodup := by
  unfold nms List.Nodup
  rw [List.pairwise_iff_getElem]
  simp only [List.length_map, List.getElem_map]
  have g : ∀ (j : Nat) (h : j < fs.length), fs[j] = fs.getD j Dop.d4 := fun j h => by simp [List.getD, h]
  constructor
  · intro h i j hi hj hij e
    rw [g i hi, g j hj] at e
    have h1 := h i hi
    have h2 := h j hj
    rw [e, h2] at h1
    simp only [I_eq] at h1
    omega
  · intro h j hj
    have h0 := fnd_has (fs.getD j Dop.d4).name fs 0 ⟨_, mem_getD _ hj, rfl⟩
    obtain ⟨-, i, h1, h2, h3⟩ := fnd_name _ fs 0 h0
    rw [Nat.zero_add] at h2
    rw [h2]
    rcases Nat.lt_trichotomy i j with c | c | c
    · exact absurd (by rw [g i h1, g j hj]; exact h3) (h i j h1 hj c)
    · rw [c]
    · exact absurd (by rw [g i h1, g j hj]; exact h3.symm) (h j i hj h1 c)
theorem uniq_mem {fs : List En.Dop.Fnc} (hn : (nms fs).Nodup) {f g : En.Dop.Fnc} (hf : f ∈ fs) (hg : g ∈ fs) (e : f.name = g.name) : f = g := by
  obtain ⟨i, hi, e1⟩ := List.getElem_of_mem hf
  obtain ⟨j, hj, e2⟩ := List.getElem_of_mem hg
  have h := (uniq_iff fs).2 hn
  have g1 : fs.getD i Dop.d4 = f := by simp [List.getD, hi, e1]
  have g2 : fs.getD j Dop.d4 = g := by simp [List.getD, hj, e2]
  have h1 := h i hi
  have h2 := h j hj
  rw [g1, e] at h1
  rw [g2, h1] at h2
  have : i = j := by simp only [I_eq] at h2; omega
  subst this
  rw [← g1, ← g2]
theorem fnd_mem {fs : List En.Dop.Fnc} (hn : (nms fs).Nodup) {g : En.Dop.Fnc} (hg : g ∈ fs) : 0 ≤ fnd g.name fs 0 ∧ fs.getD (fnd g.name fs 0).toNat Dop.d4 = g := by
  have h0 := fnd_has g.name fs 0 ⟨g, hg, rfl⟩
  obtain ⟨h1, h2⟩ := fnd_of h0
  exact ⟨h0, uniq_mem hn h1 hg h2⟩
/-- What a right unit is, whatever the order. -/
def RightQ (u : En.Dop.Unt) : Prop := u.funcs.length ≤ 64 ∧ 1 ≤ u.top ∧ u.top ≤ 4096 ∧ (∀ j, j < u.globals.length → GOK u.top (u.globals.getD j Dop.d5)) ∧ (nms u.funcs).Nodup ∧
  ∀ f ∈ u.funcs, Try.m9 f = some ((true, ()), ()) ∧ ∀ i, i < f.code.length → (f.code.getD i Dop.d3).kind = 8 → ∃ g ∈ u.funcs, g.name = (f.code.getD i Dop.d3).text ∧ g.params = (f.code.getD i Dop.d3).n
theorem cok_iff {fs : List En.Dop.Fnc} (hn : (nms fs).Nodup) (i : En.Dop.Ins) : COK fs i ↔ ∃ g ∈ fs, g.name = i.text ∧ g.params = i.n := by
  unfold COK
  constructor
  · intro ⟨h1, h2⟩
    obtain ⟨h3, h4⟩ := fnd_of h1
    exact ⟨_, h3, h4, h2⟩
  · rintro ⟨g, h1, h2, h3⟩
    have := fnd_mem hn h1
    rw [h2] at this
    rw [this.2]
    exact ⟨this.1, h3⟩
theorem rightQ (u : En.Dop.Unt) : RightP u ↔ RightQ u := by
  unfold RightP RightQ FOK
  constructor
  · rintro ⟨h1, h2, h3, h4, h5⟩
    have hn := (uniq_iff u.funcs).1 fun j hj => (h5 j hj).2.1
    refine ⟨h1, h2, h3, h4, hn, fun f hf => ?_⟩
    obtain ⟨j, hj, e⟩ := List.getElem_of_mem hf
    have := h5 j hj
    rw [show u.funcs.getD j Dop.d4 = f by simp [List.getD, hj, e]] at this
    exact ⟨this.1, fun i h6 h7 => (cok_iff hn _).1 (this.2.2 i h6 h7)⟩
  · rintro ⟨h1, h2, h3, h4, hn, h5⟩
    refine ⟨h1, h2, h3, h4, fun j hj => ?_⟩
    have := h5 _ (mem_getD Dop.d4 hj)
    exact ⟨this.1, (uniq_iff u.funcs).2 hn j hj, fun i h6 h7 => (cok_iff hn _).2 (this.2 i h6 h7)⟩
/-- A unit like another one. -/
structure Like (u v : En.Dop.Unt) : Prop where
  funcs : u.funcs.Perm v.funcs
  globals : ∃ r : En.Dop.Glb → List UInt8, v.globals = u.globals.map fun g => ⟨r g, g.at_, g.size, g.init_⟩
  top : v.top = u.top
theorem Like.right {u v : En.Dop.Unt} (h : Like u v) : RightQ u ↔ RightQ v := by
  obtain ⟨h1, ⟨r, h2⟩, h3⟩ := h
  unfold RightQ
  rw [h3, h2, h1.length_eq]
  have hm : ∀ f, f ∈ u.funcs ↔ f ∈ v.funcs := fun f => h1.mem_iff
  have hn : (nms u.funcs).Nodup ↔ (nms v.funcs).Nodup := (h1.map _).nodup_iff
  have hg : (∀ j, j < u.globals.length → GOK u.top (u.globals.getD j Dop.d5)) ↔ ∀ j, j < (u.globals.map fun g => (⟨r g, g.at_, g.size, g.init_⟩ : En.Dop.Glb)).length → GOK u.top ((u.globals.map fun g => (⟨r g, g.at_, g.size, g.init_⟩ : En.Dop.Glb)).getD j Dop.d5) := by
    rw [List.length_map]
    have : ∀ j, j < u.globals.length → (u.globals.map fun g => (⟨r g, g.at_, g.size, g.init_⟩ : En.Dop.Glb)).getD j Dop.d5 = ⟨r (u.globals.getD j Dop.d5), (u.globals.getD j Dop.d5).at_, (u.globals.getD j Dop.d5).size, (u.globals.getD j Dop.d5).init_⟩ := fun j hj => by simp [List.getD, hj]
    exact ⟨fun h j hj => by rw [this j hj]; exact h j hj, fun h j hj => by have := this j hj ▸ h j hj; exact this⟩
  simp only [hm, hn, hg]
theorem Like.mem0 {u v : En.Dop.Unt} (h : Like u v) : mem0 v = mem0 u := by
  obtain ⟨r, h2⟩ := h.globals
  unfold Law.mem0 gmem
  rw [h2, List.foldl_map]
theorem Like.main {u v : En.Dop.Unt} (h : Like u v) (hu : (nms u.funcs).Nodup) (nm : List UInt8) (h0 : 0 ≤ fnd nm u.funcs 0) : 0 ≤ fnd nm v.funcs 0 ∧ v.funcs.getD (fnd nm v.funcs 0).toNat Dop.d4 = u.funcs.getD (fnd nm u.funcs 0).toNat Dop.d4 := by
  obtain ⟨k1, k2⟩ := fnd_of h0
  have hv : (nms v.funcs).Nodup := (h.funcs.map _).nodup_iff.1 hu
  have := fnd_mem hv (h.funcs.mem_iff.1 k1)
  rwa [k2] at this
/-- THE RUNS OF BOTH ARE ONE. -/
theorem run_like (u v : En.Dop.Unt) (h : Like u v) (hl : u.funcs.length < 1000000) (hg : u.globals.length < 1000000) (inp : List Int) (hi : (∀ x ∈ inp, 0 ≤ x ∧ x ≤ 255) ∧ inp.length ≤ 200) (t2 : Int) (h3 : t2 ≤ 5000) :
    ∃ a : En.Dop.Res, Try.m15 u inp t2 = some ((a, ()), ()) ∧ Try.m15 v inp t2 = some ((a, ()), ()) ∧ a.output.length < 1000000 := by
  have hl' : v.funcs.length < 1000000 := by rw [← h.funcs.length_eq]; exact hl
  have hg' : v.globals.length < 1000000 := by obtain ⟨r, e⟩ := h.globals; rw [e, List.length_map]; exact hg
  obtain ⟨k1, k2⟩ := run_front u hl hg inp t2 h3
  obtain ⟨k3, k4⟩ := run_front v hl' hg' inp t2 h3
  have hR : Try.m11 u = some ((true, ()), ()) ↔ Try.m11 v = some ((true, ()), ()) := by rw [right_iff u hl hg, right_iff v hl' hg', rightQ, rightQ, h.right]
  by_cases hu : Try.m11 u = some ((true, ()), ())
  · have hv := hR.1 hu
    have qu := (rightQ u).1 ((right_iff u hl hg).1 hu)
    have qv := (rightQ v).1 ((right_iff v hl' hg').1 hv)
    have huR := ur u hl hg hu
    have hvR := ur v hl' hg' hv
    have hmain : 0 ≤ fnd mainN u.funcs 0 ↔ 0 ≤ fnd mainN v.funcs 0 := by
      refine ⟨fun h0 => (h.main qu.2.2.2.2.1 mainN h0).1, fun h0 => ?_⟩
      obtain ⟨j1, j2⟩ := fnd_of h0
      exact fnd_has _ _ _ ⟨_, h.funcs.mem_iff.2 j1, j2⟩
    by_cases hm : okMain u
    · obtain ⟨m1, m2⟩ := h.main qu.2.2.2.2.1 mainN hm.1
      have hmv : okMain v := ⟨m1, by rw [m2]; exact hm.2⟩
      have hI := inv0 u huR hm inp hi
      obtain ⟨a, r1, r2, r3⟩ := run_all huR t2.toNat 8192 _ hI (by omega) (by simp only [I_eq]; omega) (by omega)
      have hlook : Look u (fby [] v.funcs) := fun nm h0 => by
        obtain ⟨n1, n2⟩ := h.main qu.2.2.2.2.1 nm h0
        rw [← n2]
        exact look_all v hvR.nm nm n1
      refine ⟨a, ?_, ?_, ?_⟩
      · rw [k2 hu hm]
        have := r1 0 0 [] _ _ (look_all u huR.nm) (.inl rfl)
        rw [st0_inp, st0_inp'] at this
        exact this
      · rw [k4 hv hmv, m2, h.top, h.mem0]
        have := r1 0 0 [] _ _ hlook (.inl rfl)
        rw [st0_inp, st0_inp'] at this
        exact this
      · simp only [I_eq] at r3; omega
    · have hmv : ¬ okMain v := fun hv0 => by
        have h0 := hmain.2 hv0.1
        obtain ⟨m1, m2⟩ := h.main qu.2.2.2.2.1 mainN h0
        exact hm ⟨h0, by rw [← m2]; exact hv0.2⟩
      exact ⟨_, k1 (fun c => hm c.2), k3 (fun c => hmv c.2), by simp⟩
  · exact ⟨_, k1 (fun c => hu c.1), k3 (fun c => hu (hR.2 c.1)), by simp⟩
end Go.Proofs.Law
