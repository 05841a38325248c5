/-
  Layer 7, plain: each kind of instruction: a step goes on, and keeps what is known.
-/
import Derived.Test.YtfonahhlkanabaaLawO
set_option maxRecDepth 20000
set_option maxHeartbeats 800000
namespace Go.Proofs.Law
open Go Go.En Go.Proofs
section
variable {u : En.Dop.Unt} (hu : UR u) {K : Int} (hK : 0 ≤ K ∧ K < 80000000000) {mem : List Int} {sp : Int} {inp : List Int} {fr : En.Dop.Frm} {r : List En.Dop.Frm} {e c : Int} {out : List Int}
  (hI : Inv u K ⟨mem, sp, inp, fr :: r, false, e, c, out⟩) {i : En.Dop.Ins} (hi : fr.f.code.getD fr.at_.toNat Dop.d3 = i)
include hK hI in
theorem pre_len : r.reverse.length < 10000000 := by
  obtain ⟨-, -, -, -, h⟩ := hI.live rfl
  simp only [I_eq, List.length_cons] at h
  simp only [List.length_reverse]
  omega
include hI in
theorem regs_T {x : Int} (h : 0 ≤ x ∧ x < fr.f.regs) : 0 ≤ x ∧ x < I fr.regs.length := by
  obtain ⟨hC, -⟩ := hI.live rfl
  rw [hC.top.regs]; exact h
include hI in
theorem at_T : (0 ≤ fr.at_ ∧ fr.at_ < I fr.f.code.length) = True := by
  obtain ⟨hC, -⟩ := hI.live rfl
  exact eqT hC.top.at_
include hu hK hI hi in
theorem head (b : List (List UInt8 × En.Dop.Fnc)) (i2 : List Int) (h6 : ¬ i.kind = 6) (h7 : ¬ i.kind = 7) : St.go b ⟨mem, sp, i2, fr :: r, false, e, c, out⟩ =
    Try.m27_8 r.reverse.length i.kind b mem sp i2 false e c out (r.reverse ++ [⟨fr.f, fr.regs, fr.base, fr.at_ + 1, fr.dst⟩]) i := by
  unfold St.go
  simp only [List.reverse_cons]
  exact step_head _ _ _ _ _ _ _ _ _ _ i (pre_len hK hI) hi (at_T hI) (at_in hu hI) h6 h7
set_option linter.unusedSimpArgs false in
include hu hK hI hi in
theorem st_1 (hk : i.kind = 1) : ∃ s', Next u K ⟨mem, sp, inp, fr :: r, false, e, c, out⟩ s' := by
  have hF : Fine i fr.f := hi ▸ fine_of hu hI
  have hat := at_next hu hI (by rw [hi, hk]; decide)
  have hd := regs_T hI (hF.dst (by rw [hk]; decide))
  refine ⟨⟨mem, sp, inp, ⟨fr.f, fr.regs.set i.dst.toNat (i.n), fr.base, fr.at_ + 1, fr.dst⟩ :: r, false, e, c, out⟩, goes_of rfl (fun bb i2 _ => ?_), inv_top hI mem inp _ (fr.at_ + 1) out hI.mem hI.inp (by simp) hat (by omega), List.prefix_refl _⟩
  refine (head hu hK hI hi bb i2 (by rw [hk]; decide) (by rw [hk]; decide)).trans (Eq.trans (step_1 _ _ _ _ _ (⟨fr.f, fr.regs, fr.base, fr.at_ + 1, fr.dst⟩ : En.Dop.Frm) _ _ _ _ i hk (eqT hd) (rng_T hd)) ?_)
  simp only [St.enc, List.reverse_cons] <;> rfl
set_option linter.unusedSimpArgs false in
include hu hK hI hi in
theorem st_2 (hk : i.kind = 2) : ∃ s', Next u K ⟨mem, sp, inp, fr :: r, false, e, c, out⟩ s' := by
  have hF : Fine i fr.f := hi ▸ fine_of hu hI
  have hat := at_next hu hI (by rw [hi, hk]; decide)
  have hd := regs_T hI (hF.dst (by rw [hk]; decide))
  have ha := regs_T hI (hF.a (by rw [hk]; decide))
  obtain ⟨v, is, hdo⟩ := m47_v i.op (fr.regs.getD i.a.toNat 0) 0
  cases is with
  | true =>
    refine ⟨⟨mem, sp, inp, ⟨fr.f, fr.regs.set i.dst.toNat (v), fr.base, fr.at_ + 1, fr.dst⟩ :: r, false, e, c, out⟩, goes_of rfl (fun bb i2 _ => ?_), inv_top hI mem inp _ (fr.at_ + 1) out hI.mem hI.inp (by simp) hat (by omega), List.prefix_refl _⟩
    refine (head hu hK hI hi bb i2 (by rw [hk]; decide) (by rw [hk]; decide)).trans (Eq.trans (step_2 _ _ _ _ _ (⟨fr.f, fr.regs, fr.base, fr.at_ + 1, fr.dst⟩ : En.Dop.Frm) _ _ _ _ i hk (eqT hd) (rng_T hd) (eqT ha) (rng_T ha) v true hdo) ?_)
    simp only [St.enc, List.reverse_cons, if_true] <;> rfl
  | false =>
    refine ⟨⟨mem, sp, inp, ⟨fr.f, fr.regs, fr.base, fr.at_ + 1, fr.dst⟩ :: r, true, 2, 2, out⟩, goes_of rfl (fun bb i2 _ => ?_), inv_over hI mem sp inp _ 2 2 hI.mem hI.inp (by omega), List.prefix_refl _⟩
    refine (head hu hK hI hi bb i2 (by rw [hk]; decide) (by rw [hk]; decide)).trans (Eq.trans (step_2 _ _ _ _ _ (⟨fr.f, fr.regs, fr.base, fr.at_ + 1, fr.dst⟩ : En.Dop.Frm) _ _ _ _ i hk (eqT hd) (rng_T hd) (eqT ha) (rng_T ha) v false hdo) ?_)
    simp only [St.enc, List.reverse_cons, Bool.false_eq_true, if_false] <;> rfl
set_option linter.unusedSimpArgs false in
include hu hK hI hi in
theorem st_3 (hk : i.kind = 3) : ∃ s', Next u K ⟨mem, sp, inp, fr :: r, false, e, c, out⟩ s' := by
  have hF : Fine i fr.f := hi ▸ fine_of hu hI
  have hat := at_next hu hI (by rw [hi, hk]; decide)
  have hd := regs_T hI (hF.dst (by rw [hk]; decide))
  have ha := regs_T hI (hF.a (by rw [hk]; decide))
  have hb := regs_T hI (hF.b (by rw [hk]; decide))
  obtain ⟨v, is, hdo⟩ := m47_v i.op (fr.regs.getD i.a.toNat 0) (fr.regs.getD i.b.toNat 0)
  cases is with
  | true =>
    refine ⟨⟨mem, sp, inp, ⟨fr.f, fr.regs.set i.dst.toNat (v), fr.base, fr.at_ + 1, fr.dst⟩ :: r, false, e, c, out⟩, goes_of rfl (fun bb i2 _ => ?_), inv_top hI mem inp _ (fr.at_ + 1) out hI.mem hI.inp (by simp) hat (by omega), List.prefix_refl _⟩
    refine (head hu hK hI hi bb i2 (by rw [hk]; decide) (by rw [hk]; decide)).trans (Eq.trans (step_3 _ _ _ _ _ (⟨fr.f, fr.regs, fr.base, fr.at_ + 1, fr.dst⟩ : En.Dop.Frm) _ _ _ _ i hk (eqT hd) (rng_T hd) (eqT ha) (rng_T ha) (eqT hb) (rng_T hb) v true hdo) ?_)
    simp only [St.enc, List.reverse_cons, if_true] <;> rfl
  | false =>
    refine ⟨⟨mem, sp, inp, ⟨fr.f, fr.regs, fr.base, fr.at_ + 1, fr.dst⟩ :: r, true, 2, 2, out⟩, goes_of rfl (fun bb i2 _ => ?_), inv_over hI mem sp inp _ 2 2 hI.mem hI.inp (by omega), List.prefix_refl _⟩
    refine (head hu hK hI hi bb i2 (by rw [hk]; decide) (by rw [hk]; decide)).trans (Eq.trans (step_3 _ _ _ _ _ (⟨fr.f, fr.regs, fr.base, fr.at_ + 1, fr.dst⟩ : En.Dop.Frm) _ _ _ _ i hk (eqT hd) (rng_T hd) (eqT ha) (rng_T ha) (eqT hb) (rng_T hb) v false hdo) ?_)
    simp only [St.enc, List.reverse_cons, Bool.false_eq_true, if_false] <;> rfl
set_option linter.unusedSimpArgs false in
include hu hK hI hi in
theorem st_4 (hk : i.kind = 4) : ∃ s', Next u K ⟨mem, sp, inp, fr :: r, false, e, c, out⟩ s' := by
  have hF : Fine i fr.f := hi ▸ fine_of hu hI
  have hat := at_next hu hI (by rw [hi, hk]; decide)
  have hd := regs_T hI (hF.dst (by rw [hk]; decide))
  have ha := regs_T hI (hF.a (by rw [hk]; decide))
  refine ⟨⟨mem, sp, inp, ⟨fr.f, fr.regs.set i.dst.toNat (fr.regs.getD i.a.toNat 0), fr.base, fr.at_ + 1, fr.dst⟩ :: r, false, e, c, out⟩, goes_of rfl (fun bb i2 _ => ?_), inv_top hI mem inp _ (fr.at_ + 1) out hI.mem hI.inp (by simp) hat (by omega), List.prefix_refl _⟩
  refine (head hu hK hI hi bb i2 (by rw [hk]; decide) (by rw [hk]; decide)).trans (Eq.trans (step_4 _ _ _ _ _ (⟨fr.f, fr.regs, fr.base, fr.at_ + 1, fr.dst⟩ : En.Dop.Frm) _ _ _ _ i hk (eqT hd) (rng_T hd) (eqT ha) (rng_T ha)) ?_)
  simp only [St.enc, List.reverse_cons] <;> rfl
set_option linter.unusedSimpArgs false in
include hu hK hI hi in
theorem st_5 (hk : i.kind = 5) : ∃ s', Next u K ⟨mem, sp, inp, fr :: r, false, e, c, out⟩ s' := by
  have hF : Fine i fr.f := hi ▸ fine_of hu hI
  have hat := at_next hu hI (by rw [hi, hk]; decide)
  have hd := regs_T hI (hF.dst (by rw [hk]; decide))
  have hn := hF.n (by rw [hk])
  have hfr := (fr_of hu hI).frame
  have hbase := (hI.live rfl).1.top.base
  have hbn : inR (fr.base + i.n) = true := by rw [inR_iff]; omega
  refine ⟨⟨mem, sp, inp, ⟨fr.f, fr.regs.set i.dst.toNat (IntKind.i32.wrap (IntKind.u32.wrap (fr.base + i.n))), fr.base, fr.at_ + 1, fr.dst⟩ :: r, false, e, c, out⟩, goes_of rfl (fun bb i2 _ => ?_), inv_top hI mem inp _ (fr.at_ + 1) out hI.mem hI.inp (by simp) hat (by omega), List.prefix_refl _⟩
  refine (head hu hK hI hi bb i2 (by rw [hk]; decide) (by rw [hk]; decide)).trans (Eq.trans (step_5 _ _ _ _ _ (⟨fr.f, fr.regs, fr.base, fr.at_ + 1, fr.dst⟩ : En.Dop.Frm) _ _ _ _ i hk (eqT hd) (rng_T hd) hbn) ?_)
  simp only [St.enc, List.reverse_cons] <;> rfl
set_option linter.unusedSimpArgs false in
include hu hK hI hi in
theorem st_6 (hk : i.kind = 6) : ∃ s', Next u K ⟨mem, sp, inp, fr :: r, false, e, c, out⟩ s' := by
  have hF : Fine i fr.f := hi ▸ fine_of hu hI
  have hat := at_next hu hI (by rw [hi, hk]; decide)
  have ha := regs_T hI (hF.a (by rw [hk]; decide))
  have hd := regs_T hI (hF.dst (by rw [hk]; decide))
  by_cases h1 : IntKind.u32.wrap (fr.regs.getD i.a.toNat 0) < 1
  ·
    refine ⟨⟨mem, sp, inp, ⟨fr.f, fr.regs, fr.base, fr.at_ + 1, fr.dst⟩ :: r, true, 2, 1, out⟩, goes_of rfl (fun bb i2 _ => ?_), inv_over hI mem sp inp _ 2 1 hI.mem hI.inp (by omega), List.prefix_refl _⟩
    have hs := step_6_lo bb mem sp i2 r.reverse fr false e c out i hk (pre_len hK hI) hi (at_T hI) (at_in hu hI) _ rfl (eqT ha) (rng_T ha) h1
    simp only [St.go, St.enc, List.reverse_cons]
    exact hs
  by_cases h2 : I mem.length ≤ IntKind.u32.wrap (fr.regs.getD i.a.toNat 0)
  ·
    refine ⟨⟨mem, sp, inp, ⟨fr.f, fr.regs, fr.base, fr.at_ + 1, fr.dst⟩ :: r, true, 2, 1, out⟩, goes_of rfl (fun bb i2 _ => ?_), inv_over hI mem sp inp _ 2 1 hI.mem hI.inp (by omega), List.prefix_refl _⟩
    have hs := step_6_hi bb mem sp i2 r.reverse fr false e c out i hk (pre_len hK hI) hi (at_T hI) (at_in hu hI) _ rfl (eqT ha) (rng_T ha) h1 h2
    simp only [St.go, St.enc, List.reverse_cons]
    exact hs
  have h3 : 0 ≤ IntKind.u32.wrap (fr.regs.getD i.a.toNat 0) ∧ IntKind.u32.wrap (fr.regs.getD i.a.toNat 0) < I mem.length := by omega
  refine ⟨⟨mem, sp, inp, ⟨fr.f, fr.regs.set i.dst.toNat (mem.getD (IntKind.u32.wrap (fr.regs.getD i.a.toNat 0)).toNat 0), fr.base, fr.at_ + 1, fr.dst⟩ :: r, false, e, c, out⟩, goes_of rfl (fun bb i2 _ => ?_), inv_top hI mem inp _ (fr.at_ + 1) out hI.mem hI.inp (by simp) hat (by omega), List.prefix_refl _⟩
  have hs := step_6 bb mem sp i2 r.reverse fr false e c out i hk (pre_len hK hI) hi (at_T hI) (at_in hu hI) _ rfl (eqT ha) (rng_T ha) (eqT hd) (rng_T hd) h1 h2 (eqT h3) (rng_T h3)
  simp only [St.go, St.enc, List.reverse_cons]
  exact hs
set_option linter.unusedSimpArgs false in
include hu hK hI hi in
theorem st_7 (hk : i.kind = 7) : ∃ s', Next u K ⟨mem, sp, inp, fr :: r, false, e, c, out⟩ s' := by
  have hF : Fine i fr.f := hi ▸ fine_of hu hI
  have hat := at_next hu hI (by rw [hi, hk]; decide)
  have ha := regs_T hI (hF.a (by rw [hk]; decide))
  have hb := regs_T hI (hF.b (by rw [hk]; decide))
  by_cases h1 : IntKind.u32.wrap (fr.regs.getD i.a.toNat 0) < 1
  ·
    refine ⟨⟨mem, sp, inp, ⟨fr.f, fr.regs, fr.base, fr.at_ + 1, fr.dst⟩ :: r, true, 2, 1, out⟩, goes_of rfl (fun bb i2 _ => ?_), inv_over hI mem sp inp _ 2 1 hI.mem hI.inp (by omega), List.prefix_refl _⟩
    have hs := step_7_lo bb mem sp i2 r.reverse fr false e c out i hk (pre_len hK hI) hi (at_T hI) (at_in hu hI) _ rfl (eqT ha) (rng_T ha) h1
    simp only [St.go, St.enc, List.reverse_cons]
    exact hs
  by_cases h2 : I mem.length ≤ IntKind.u32.wrap (fr.regs.getD i.a.toNat 0)
  ·
    refine ⟨⟨mem, sp, inp, ⟨fr.f, fr.regs, fr.base, fr.at_ + 1, fr.dst⟩ :: r, true, 2, 1, out⟩, goes_of rfl (fun bb i2 _ => ?_), inv_over hI mem sp inp _ 2 1 hI.mem hI.inp (by omega), List.prefix_refl _⟩
    have hs := step_7_hi bb mem sp i2 r.reverse fr false e c out i hk (pre_len hK hI) hi (at_T hI) (at_in hu hI) _ rfl (eqT ha) (rng_T ha) h1 h2
    simp only [St.go, St.enc, List.reverse_cons]
    exact hs
  have h3 : 0 ≤ IntKind.u32.wrap (fr.regs.getD i.a.toNat 0) ∧ IntKind.u32.wrap (fr.regs.getD i.a.toNat 0) < I mem.length := by omega
  refine ⟨⟨mem.set (IntKind.u32.wrap (fr.regs.getD i.a.toNat 0)).toNat (fr.regs.getD i.b.toNat 0), sp, inp, ⟨fr.f, fr.regs, fr.base, fr.at_ + 1, fr.dst⟩ :: r, false, e, c, out⟩, goes_of rfl (fun bb i2 _ => ?_), inv_top hI _ inp _ (fr.at_ + 1) out (by simpa using hI.mem) hI.inp rfl hat (by omega), List.prefix_refl _⟩
  have hs := step_7 bb mem sp i2 r.reverse fr false e c out i hk (pre_len hK hI) hi (at_T hI) (at_in hu hI) _ rfl (eqT ha) (rng_T ha) (eqT hb) (rng_T hb) h1 h2 (eqT h3) (rng_T h3)
  simp only [St.go, St.enc, List.reverse_cons]
  exact hs
set_option linter.unusedSimpArgs false in
include hu hK hI hi in
theorem st_8 (hk : i.kind = 8) : ∃ s', Next u K ⟨mem, sp, inp, fr :: r, false, e, c, out⟩ s' := by
  have hF : Fine i fr.f := hi ▸ fine_of hu hI
  have hat := at_next hu hI (by rw [hi, hk]; decide)
  obtain ⟨hdst, l, hl, hl6, hok⟩ := hF.call hk
  obtain ⟨hC, -, hs1, hs2, hlen⟩ := hI.live rfl
  obtain ⟨j, hj, hjf⟩ := hC.top.f
  have hjf : fr.f = u.funcs.getD j Dop.d4 := hjf
  have hat' := hC.top.at_
  have hfn : 0 ≤ fnd i.text u.funcs 0 := by
    have := hu.call j hj fr.at_.toNat (by rw [← hjf]; simp only [I_eq] at hat'; omega)
    rw [← hjf, hi] at this
    exact this hk
  have hgl : (fnd i.text u.funcs 0).toNat < u.funcs.length := by
    rcases fnd_lt i.text u.funcs 0 with h | ⟨h1, h2⟩
    · omega
    · simp only [I_eq] at h2; omega
  have hg := hu.fr _ hgl
  have hcal : ∀ bb, Look u bb → callee bb i = u.funcs.getD (fnd i.text u.funcs 0).toNat Dop.d4 := fun bb h => by unfold callee; rw [h _ hfn]; rfl
  generalize hge : u.funcs.getD (fnd i.text u.funcs 0).toNat Dop.d4 = g at hg hcal
  have hin : inR (sp + g.frame) = true := by have := hg.frame; rw [inR_iff]; simp only at hs1 hs2; omega
  have hx : ∀ x ∈ l, 0 ≤ x ∧ x < I (⟨fr.f, fr.regs, fr.base, fr.at_ + 1, fr.dst⟩ : En.Dop.Frm).regs.length := fun x hx => by
    simp only [okR, List.all_eq_true] at hok
    exact regs_T hI (both_dec (hok x hx))
  have hargs := fun bb i2 => args_loop bb mem sp i2 r.reverse (⟨fr.f, fr.regs, fr.base, fr.at_ + 1, fr.dst⟩ : En.Dop.Frm) false e c out i l hl6 hx l.length 0 [] (by omega) (by simp)
  by_cases hf : I mem.length < sp + g.frame
  · refine ⟨⟨mem, sp, inp, ⟨fr.f, fr.regs, fr.base, fr.at_ + 1, fr.dst⟩ :: r, true, 3, 0, out⟩, goes_of rfl (fun bb i2 hb => ?_), inv_over hI mem sp inp _ 3 0 hI.mem hI.inp (by omega), List.prefix_refl _⟩
    refine (head hu hK hI hi bb i2 (by rw [hk]; decide) (by rw [hk]; decide)).trans  ?_
    rw [Try.m27_8_eq]
    simp (decide := true) only [hk, decide_true, if_true, hl, Option.bind]
    refine Eq.trans (hargs bb i2) ?_
    refine Eq.trans (call_full bb mem sp i2 r.reverse (⟨fr.f, fr.regs, fr.base, fr.at_ + 1, fr.dst⟩ : En.Dop.Frm) false e c out i l _ (by rw [hcal bb hb]; exact hin) (by rw [hcal bb hb]; exact hf)) ?_
    simp only [St.enc, List.reverse_cons] <;> rfl
  · refine ⟨⟨mem, sp + g.frame, inp, ⟨g, regs0 g (vals (⟨fr.f, fr.regs, fr.base, fr.at_ + 1, fr.dst⟩ : En.Dop.Frm) l), sp, 0, i.dst⟩ :: (⟨fr.f, fr.regs, fr.base, fr.at_ + 1, fr.dst⟩ : En.Dop.Frm) :: r, false, e, c, out⟩, goes_of rfl (fun bb i2 hb => ?_), ?_, List.prefix_refl _⟩
    · refine (head hu hK hI hi bb i2 (by rw [hk]; decide) (by rw [hk]; decide)).trans  ?_
      rw [Try.m27_8_eq]
      simp (decide := true) only [hk, decide_true, if_true, hl, Option.bind]
      refine Eq.trans (hargs bb i2) ?_
      refine Eq.trans (call_push bb mem sp i2 r.reverse (⟨fr.f, fr.regs, fr.base, fr.at_ + 1, fr.dst⟩ : En.Dop.Frm) false e c out i l _ (by rw [hcal bb hb]; exact hin) (by rw [hcal bb hb]; exact hf) (by rw [hcal bb hb]; exact hg.regs) (pre_len hK hI)) ?_
      simp only [St.enc, List.reverse_cons, hcal bb hb, List.nil_append, List.drop_zero] <;> rfl
    · have hm := hI.mem
      have hgf := hg.frame
      have hgr := hg.regs
      have hgn := hg.len
      have hout := hI.out
      refine { mem := hm, inp := hI.inp, live := fun _ => ⟨⟨?_, ?_, ?_⟩, by simp, ?_, ?_, ?_⟩, over := fun h => (by cases h), out := ?_ }
      · exact { f := ⟨_, hgl, hge.symm⟩, regs := by simp only [regs0, I_eq, List.length_append, List.length_take, List.length_drop, List.length_replicate]; omega, at_ := by simp only [I_eq]; omega, base := by simp only at hs1 hs2 ⊢; omega }
      · have hdd := hdst.imp (regs_T hI) id
        show i.dst < I fr.regs.length
        have := I_nn fr.regs.length
        omega
      · exact (hC.mono).set fr.regs (fr.at_ + 1) rfl hat
      · simp only at hs1 hs2 ⊢; omega
      · simp only at hs1 hs2 ⊢; omega
      · simp only [I_eq, List.length_cons] at hlen ⊢; omega
      · show 8192 * I out.length ≤ K + 8192
        have : 8192 * I out.length ≤ K := hout
        omega
set_option linter.unusedSimpArgs false in
include hu hK hI hi in
theorem st_9 (hk : i.kind = 9) : ∃ s', Next u K ⟨mem, sp, inp, fr :: r, false, e, c, out⟩ s' := by
  have hF : Fine i fr.f := hi ▸ fine_of hu hI
  have hat := at_next hu hI (by rw [hi, hk]; decide)
  have hd := regs_T hI (hF.dst (by rw [hk]; decide))
  have hno : ¬ NoG u := fun h => by
    obtain ⟨hC, -⟩ := hI.live rfl
    obtain ⟨j, hj, hjf⟩ := hC.top.f
    have hjf : fr.f = u.funcs.getD j Dop.d4 := hjf
    have hat' := hC.top.at_
    have := h j hj fr.at_.toNat (by rw [← hjf]; simp only [I_eq] at hat'; omega)
    rw [← hjf, hi] at this
    exact this hk
  have hin := hI.inp
  cases inp with
  | nil =>
    refine ⟨⟨mem, sp, [], ⟨fr.f, fr.regs.set i.dst.toNat (-1), fr.base, fr.at_ + 1, fr.dst⟩ :: r, false, e, c, out⟩, fun bb i2 _ h => ⟨[], ?_, fun _ => rfl⟩, inv_top hI mem [] _ (fr.at_ + 1) out hI.mem hI.inp (by simp) hat (by omega), List.prefix_refl _⟩
    have h : i2 = [] := h.resolve_right hno
    subst h
    refine (head hu hK hI hi bb [] (by rw [hk]; decide) (by rw [hk]; decide)).trans (Eq.trans (step_9_nil _ _ _ _ _ (⟨fr.f, fr.regs, fr.base, fr.at_ + 1, fr.dst⟩ : En.Dop.Frm) _ _ _ _ i hk (eqT hd) (rng_T hd) rfl) ?_)
    simp only [St.enc, List.reverse_cons] <;> rfl
  | cons x q =>
    have hq : (∀ x ∈ q, 0 ≤ x ∧ x ≤ 255) ∧ q.length ≤ 200 := ⟨fun y hy => hin.1 y (by simp [hy]), by have := hin.2; simp only [List.length_cons] at this; omega⟩
    refine ⟨⟨mem, sp, q, ⟨fr.f, (fr.regs.set i.dst.toNat (-1)).set i.dst.toNat x, fr.base, fr.at_ + 1, fr.dst⟩ :: r, false, e, c, out⟩, fun bb i2 _ h => ⟨q, ?_, fun _ => rfl⟩, inv_top hI mem q _ (fr.at_ + 1) out hI.mem hq (by simp) hat (by omega), List.prefix_refl _⟩
    have h : i2 = x :: q := h.resolve_right hno
    subst h
    have hx : inR x = true := by have := hin.1 x (by simp); rw [inR_iff]; omega
    refine (head hu hK hI hi bb (x :: q) (by rw [hk]; decide) (by rw [hk]; decide)).trans (Eq.trans (step_9_cons _ _ _ _ _ (⟨fr.f, fr.regs, fr.base, fr.at_ + 1, fr.dst⟩ : En.Dop.Frm) _ _ _ _ i hk (eqT hd) (rng_T hd) x q rfl hx (by have := hin.2; simp only at this; omega)) ?_)
    simp only [St.enc, List.reverse_cons] <;> rfl
set_option linter.unusedSimpArgs false in
include hu hK hI hi in
theorem st_10 (hk : i.kind = 10) : ∃ s', Next u K ⟨mem, sp, inp, fr :: r, false, e, c, out⟩ s' := by
  have hF : Fine i fr.f := hi ▸ fine_of hu hI
  have hat := at_next hu hI (by rw [hi, hk]; decide)
  have ha := regs_T hI (hF.a (by rw [hk]; decide))
  have ho : room 1 (out.length + [IntKind.u8.wrap (fr.regs.getD i.a.toNat 0)].length) = true := room_s _ _ (by have : 8192 * I out.length ≤ K := hI.out; simp only [I_eq] at this; simp only [List.length_cons, List.length_nil]; omega)
  refine ⟨⟨mem, sp, inp, ⟨fr.f, fr.regs, fr.base, fr.at_ + 1, fr.dst⟩ :: r, false, e, c, out ++ [IntKind.u8.wrap (fr.regs.getD i.a.toNat 0)]⟩, goes_of rfl (fun bb i2 _ => ?_), inv_top hI mem inp _ (fr.at_ + 1) _ hI.mem hI.inp rfl hat (by simp), List.prefix_append _ _⟩
  refine (head hu hK hI hi bb i2 (by rw [hk]; decide) (by rw [hk]; decide)).trans (Eq.trans (step_10 _ _ _ _ _ (⟨fr.f, fr.regs, fr.base, fr.at_ + 1, fr.dst⟩ : En.Dop.Frm) _ _ _ _ i hk (eqT ha) (rng_T ha) ho) ?_)
  simp only [St.enc, List.reverse_cons] <;> rfl
set_option linter.unusedSimpArgs false in
include hu hK hI hi in
theorem st_11 (hk : i.kind = 11) : ∃ s', Next u K ⟨mem, sp, inp, fr :: r, false, e, c, out⟩ s' := by
  have hF : Fine i fr.f := hi ▸ fine_of hu hI
  have ht := hF.to (by rw [hk]; decide)
  refine ⟨⟨mem, sp, inp, ⟨fr.f, fr.regs, fr.base, i.to_, fr.dst⟩ :: r, false, e, c, out⟩, goes_of rfl (fun bb i2 _ => ?_), inv_top hI mem inp _ i.to_ out hI.mem hI.inp rfl ht (by omega), List.prefix_refl _⟩
  refine (head hu hK hI hi bb i2 (by rw [hk]; decide) (by rw [hk]; decide)).trans (Eq.trans (step_11 _ _ _ _ _ (⟨fr.f, fr.regs, fr.base, fr.at_ + 1, fr.dst⟩ : En.Dop.Frm) _ _ _ _ i hk) ?_)
  simp only [St.enc, List.reverse_cons] <;> rfl
set_option linter.unusedSimpArgs false in
include hu hK hI hi in
theorem st_12 (hk : i.kind = 12) : ∃ s', Next u K ⟨mem, sp, inp, fr :: r, false, e, c, out⟩ s' := by
  have hF : Fine i fr.f := hi ▸ fine_of hu hI
  have ha := regs_T hI (hF.a (by rw [hk]; decide))
  have ht := hF.to (by rw [hk]; decide)
  have he := hF.el hk
  by_cases hz : fr.regs.getD i.a.toNat 0 = 0
  ·
    refine ⟨⟨mem, sp, inp, ⟨fr.f, fr.regs, fr.base, i.else_, fr.dst⟩ :: r, false, e, c, out⟩, goes_of rfl (fun bb i2 _ => ?_), inv_top hI mem inp _ i.else_ out hI.mem hI.inp rfl he (by omega), List.prefix_refl _⟩
    refine (head hu hK hI hi bb i2 (by rw [hk]; decide) (by rw [hk]; decide)).trans (Eq.trans (step_12 _ _ _ _ _ (⟨fr.f, fr.regs, fr.base, fr.at_ + 1, fr.dst⟩ : En.Dop.Frm) _ _ _ _ i hk (eqT ha) (rng_T ha)) ?_)
    simp only [St.enc, List.reverse_cons, hz, if_true] <;> rfl
  ·
    refine ⟨⟨mem, sp, inp, ⟨fr.f, fr.regs, fr.base, i.to_, fr.dst⟩ :: r, false, e, c, out⟩, goes_of rfl (fun bb i2 _ => ?_), inv_top hI mem inp _ i.to_ out hI.mem hI.inp rfl ht (by omega), List.prefix_refl _⟩
    refine (head hu hK hI hi bb i2 (by rw [hk]; decide) (by rw [hk]; decide)).trans (Eq.trans (step_12 _ _ _ _ _ (⟨fr.f, fr.regs, fr.base, fr.at_ + 1, fr.dst⟩ : En.Dop.Frm) _ _ _ _ i hk (eqT ha) (rng_T ha)) ?_)
    simp only [St.enc, List.reverse_cons, hz, if_false] <;> rfl
set_option linter.unusedSimpArgs false in
include hu hK hI hi in
theorem st_13 (hk : i.kind = 13) : ∃ s', Next u K ⟨mem, sp, inp, fr :: r, false, e, c, out⟩ s' := by
  have hF : Fine i fr.f := hi ▸ fine_of hu hI
  have ha := regs_T hI (hF.a (by rw [hk]; decide))
  obtain ⟨hC, -, hs1, hs2, hlen⟩ := hI.live rfl
  have hff := (fr_of hu hI).frame
  have hsp : inR (sp - fr.f.frame) = true := by rw [inR_iff]; simp only at hs1 hs2; omega
  have hout : 8192 * I out.length ≤ K := hI.out
  cases r with
  | nil =>
    refine ⟨⟨mem, sp - fr.f.frame, inp, [], true, 1, fr.regs.getD i.a.toNat 0, out⟩, goes_of rfl (fun bb i2 _ => ?_), inv_over hI mem _ inp _ 1 _ hI.mem hI.inp (by omega), List.prefix_refl _⟩
    refine (head hu hK hI hi bb i2 (by rw [hk]; decide) (by rw [hk]; decide)).trans (Eq.trans (step_13_end _ _ _ _ _ (⟨fr.f, fr.regs, fr.base, fr.at_ + 1, fr.dst⟩ : En.Dop.Frm) _ _ _ _ i hk (eqT ha) (rng_T ha) hsp rfl) ?_)
    rfl
  | cons g r2 =>
    obtain ⟨hC1, hC2, hC3⟩ := hC
    by_cases hdd : 0 ≤ fr.dst
    · refine ⟨⟨mem, sp - fr.f.frame, inp, ⟨g.f, g.regs.set fr.dst.toNat (fr.regs.getD i.a.toNat 0), g.base, g.at_, g.dst⟩ :: r2, false, e, c, out⟩, goes_of rfl (fun bb i2 _ => ?_), ?_, List.prefix_refl _⟩
      · refine (head hu hK hI hi bb i2 (by rw [hk]; decide) (by rw [hk]; decide)).trans (Eq.trans (step_13_set _ _ _ _ _ (⟨fr.f, fr.regs, fr.base, fr.at_ + 1, fr.dst⟩ : En.Dop.Frm) _ _ _ _ i hk r2.reverse g List.reverse_cons (eqT ha) (rng_T ha) hsp (pre_len hK hI) hdd hC2 (rng_T ⟨hdd, hC2⟩)) ?_)
        simp only [St.enc, List.reverse_cons] <;> rfl
      · refine { mem := hI.mem, inp := hI.inp, live := fun _ => ⟨(hC3.mono).set _ g.at_ (by simp) hC3.top.at_, by simp, by simp only at hs1 hs2 ⊢; omega, by simp only at hs1 hs2 ⊢; omega, ?_⟩, over := fun h => (by cases h), out := by simp only; omega }
        simp only [I_eq, List.length_cons] at hlen ⊢; omega
    · refine ⟨⟨mem, sp - fr.f.frame, inp, g :: r2, false, e, c, out⟩, goes_of rfl (fun bb i2 _ => ?_), ?_, List.prefix_refl _⟩
      · refine (head hu hK hI hi bb i2 (by rw [hk]; decide) (by rw [hk]; decide)).trans (Eq.trans (step_13_no _ _ _ _ _ (⟨fr.f, fr.regs, fr.base, fr.at_ + 1, fr.dst⟩ : En.Dop.Frm) _ _ _ _ i hk (eqT ha) (rng_T ha) hsp (pre_len hK hI) (by simp) hdd) ?_)
        simp only [St.enc, List.reverse_cons] <;> rfl
      · refine { mem := hI.mem, inp := hI.inp, live := fun _ => ⟨hC3.mono, by simp, by simp only at hs1 hs2 ⊢; omega, by simp only at hs1 hs2 ⊢; omega, ?_⟩, over := fun h => (by cases h), out := by simp only; omega }
        simp only [I_eq, List.length_cons] at hlen ⊢; omega
include hu hK hI in
/-- A STEP GOES ON. -/
theorem step_all : ∃ s', Next u K ⟨mem, sp, inp, fr :: r, false, e, c, out⟩ s' := by
  have hk := (fine_of hu hI).kind
  have : (fr.f.code.getD fr.at_.toNat Dop.d3).kind = 1 ∨ (fr.f.code.getD fr.at_.toNat Dop.d3).kind = 2 ∨ (fr.f.code.getD fr.at_.toNat Dop.d3).kind = 3 ∨ (fr.f.code.getD fr.at_.toNat Dop.d3).kind = 4 ∨ (fr.f.code.getD fr.at_.toNat Dop.d3).kind = 5 ∨ (fr.f.code.getD fr.at_.toNat Dop.d3).kind = 6 ∨ (fr.f.code.getD fr.at_.toNat Dop.d3).kind = 7 ∨ (fr.f.code.getD fr.at_.toNat Dop.d3).kind = 8 ∨ (fr.f.code.getD fr.at_.toNat Dop.d3).kind = 9 ∨ (fr.f.code.getD fr.at_.toNat Dop.d3).kind = 10 ∨ (fr.f.code.getD fr.at_.toNat Dop.d3).kind = 11 ∨ (fr.f.code.getD fr.at_.toNat Dop.d3).kind = 12 ∨ (fr.f.code.getD fr.at_.toNat Dop.d3).kind = 13 := by omega
  rcases this with h | h | h | h | h | h | h | h | h | h | h | h | h
  · exact st_1 hu hK hI rfl h
  · exact st_2 hu hK hI rfl h
  · exact st_3 hu hK hI rfl h
  · exact st_4 hu hK hI rfl h
  · exact st_5 hu hK hI rfl h
  · exact st_6 hu hK hI rfl h
  · exact st_7 hu hK hI rfl h
  · exact st_8 hu hK hI rfl h
  · exact st_9 hu hK hI rfl h
  · exact st_10 hu hK hI rfl h
  · exact st_11 hu hK hI rfl h
  · exact st_12 hu hK hI rfl h
  · exact st_13 hu hK hI rfl h
end
end Go.Proofs.Law
