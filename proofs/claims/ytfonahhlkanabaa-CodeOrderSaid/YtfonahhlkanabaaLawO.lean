/-
  Layer 7, plain: a step of the run goes on, and what it keeps.
-/
import Derived.Test.YtfonahhlkanabaaLawN
import Derived.Test.YtfonahhlkanabaaLawJ
import Derived.Test.YtfonahhlkanabaaLawH
set_option maxRecDepth 20000
set_option maxHeartbeats 800000
namespace Go.Proofs.Law
open Go Go.En Go.Proofs

/-- A state of the run; the stack's top is first. -/
structure St where
  mem : List Int
  sp : Int
  inp : List Int
  rs : List En.Dop.Frm
  ov : Bool
  e : Int
  c : Int
  out : List Int
noncomputable def St.go (b : List (List UInt8 × En.Dop.Fnc)) (s : St) := Try.m27 b s.mem s.sp s.inp s.rs.reverse s.ov s.e s.c s.out
def St.enc (b : List (List UInt8 × En.Dop.Fnc)) (s : St) : Option (Unit × ((List (List UInt8 × En.Dop.Fnc) × List Int × Int × List Int × List En.Dop.Frm × Bool × Int × Int × List Int × Unit) × Unit)) :=
  some ((), ((b, (s.mem, (s.sp, (s.inp, (s.rs.reverse, (s.ov, (s.e, (s.c, (s.out, ()))))))))), ()))
/-- A frame that may be. -/
structure OkF (u : En.Dop.Unt) (K : Int) (fr : En.Dop.Frm) : Prop where
  f : ∃ j, j < u.funcs.length ∧ fr.f = u.funcs.getD j Dop.d4
  regs : I fr.regs.length = fr.f.regs
  at_ : 0 ≤ fr.at_ ∧ fr.at_ < I fr.f.code.length
  base : -K ≤ fr.base ∧ fr.base ≤ K
def Chn (u : En.Dop.Unt) (K : Int) : List En.Dop.Frm → Prop
  | [] => True
  | [fr] => OkF u K fr
  | fr :: g :: r => OkF u K fr ∧ fr.dst < I g.regs.length ∧ Chn u K (g :: r)
theorem OkF.mono {u : En.Dop.Unt} {K : Int} {fr : En.Dop.Frm} (h : OkF u K fr) : OkF u (K + 8192) fr :=
  { f := h.f, regs := h.regs, at_ := h.at_, base := by have := h.base; omega }
theorem Chn.mono {u : En.Dop.Unt} {K : Int} : ∀ {l : List En.Dop.Frm}, Chn u K l → Chn u (K + 8192) l
  | [], _ => trivial
  | [_], h => OkF.mono h
  | _ :: _ :: _, h => ⟨h.1.mono, h.2.1, Chn.mono h.2.2⟩
theorem Chn.top {u : En.Dop.Unt} {K : Int} {fr : En.Dop.Frm} : ∀ {r : List En.Dop.Frm}, Chn u K (fr :: r) → OkF u K fr
  | [], h => h
  | _ :: _, h => h.1
theorem Chn.keep {u : En.Dop.Unt} {K : Int} {fr fr' : En.Dop.Frm} : ∀ {r : List En.Dop.Frm}, Chn u K (fr :: r) → OkF u K fr' → fr'.dst = fr.dst → Chn u K (fr' :: r)
  | [], _, h', _ => h'
  | _ :: _, h, h', hd => ⟨h', hd ▸ h.2.1, h.2.2⟩
theorem Chn.set {u : En.Dop.Unt} {K : Int} {fr : En.Dop.Frm} {r : List En.Dop.Frm} (h : Chn u K (fr :: r)) (rg : List Int) (a : Int) (hr : rg.length = fr.regs.length) (ha : 0 ≤ a ∧ a < I fr.f.code.length) :
    Chn u K (⟨fr.f, rg, fr.base, a, fr.dst⟩ :: r) :=
  h.keep { f := h.top.f, regs := by rw [← h.top.regs, hr], at_ := ha, base := h.top.base } rfl
/-- Where functions are looked up. -/
def Look (u : En.Dop.Unt) (b : List (List UInt8 × En.Dop.Fnc)) : Prop := ∀ nm, 0 ≤ fnd nm u.funcs 0 → mlookS b nm = some (u.funcs.getD (fnd nm u.funcs 0).toNat Dop.d4)
/-- No function reads input. -/
def NoG (u : En.Dop.Unt) : Prop := ∀ j, j < u.funcs.length → ∀ k, k < (u.funcs.getD j Dop.d4).code.length → ((u.funcs.getD j Dop.d4).code.getD k Dop.d3).kind ≠ 9
structure Inv (u : En.Dop.Unt) (K : Int) (s : St) : Prop where
  mem : s.mem.length = 4096
  inp : (∀ x ∈ s.inp, 0 ≤ x ∧ x ≤ 255) ∧ s.inp.length ≤ 200
  live : s.ov = false → Chn u K s.rs ∧ s.rs ≠ [] ∧ -K ≤ s.sp ∧ s.sp ≤ K ∧ 8192 * I s.rs.length ≤ K
  over : s.ov = true → s.e = 1 ∨ s.e = 2 ∨ s.e = 3
  out : 8192 * I s.out.length ≤ K
/-- What a step does. -/
def Goes (u : En.Dop.Unt) (s s' : St) : Prop :=
  ∀ b i2, Look u b → i2 = s.inp ∨ NoG u → ∃ i2', St.go b { s with inp := i2 } = St.enc b { s' with inp := i2' } ∧ (i2 = s.inp → i2' = s'.inp)
theorem goes_of {u : En.Dop.Unt} {s s' : St} (hi : s'.inp = s.inp) (h : ∀ b i2, Look u b → St.go b { s with inp := i2 } = St.enc b { s' with inp := i2 }) : Goes u s s' :=
  fun b i2 hb _ => ⟨i2, h b i2 hb, fun e => e.trans hi.symm⟩
theorem eqT {p : Prop} (h : p) : p = True := eq_true h
theorem rng_T {i : Int} {l : List Int} (h : 0 ≤ i ∧ i < I l.length) : (i.toNat < l.length) = True := by
  simp only [I_eq] at h; simp only [eq_iff_iff, iff_true]; omega

section
variable {u : En.Dop.Unt} (hu : UR u) {K : Int} {mem : List Int} {sp : Int} {inp : List Int} {fr : En.Dop.Frm} {r : List En.Dop.Frm} {e c : Int} {out : List Int}
  (hI : Inv u K ⟨mem, sp, inp, fr :: r, false, e, c, out⟩)
include hu hI
theorem fr_of : FR fr.f := by
  obtain ⟨hC, -⟩ := hI.live rfl
  obtain ⟨j, hj, e⟩ := hC.top.f
  rw [e]; exact hu.fr j hj
theorem fine_of : Fine (fr.f.code.getD fr.at_.toNat Dop.d3) fr.f := by
  obtain ⟨hC, -⟩ := hI.live rfl
  exact (fr_of hu hI).ins _ (by have := hC.top.at_; simp only [I_eq] at this; omega)
theorem at_next (hk : (fr.f.code.getD fr.at_.toNat Dop.d3).kind < 11) : 0 ≤ fr.at_ + 1 ∧ fr.at_ + 1 < I fr.f.code.length := by
  obtain ⟨hC, -⟩ := hI.live rfl
  have h1 := hC.top.at_
  have h2 := (fr_of hu hI).last
  by_cases h : fr.at_ + 1 < I fr.f.code.length
  · exact ⟨by omega, h⟩
  · have : fr.at_.toNat = fr.f.code.length - 1 := by simp only [I_eq] at h h1; omega
    rw [this] at hk; omega
theorem at_in : inR (fr.at_ + 1) = true := by
  obtain ⟨hC, -⟩ := hI.live rfl
  have h1 := hC.top.at_
  have h2 := (fr_of hu hI).len
  rw [inR_iff]; simp only [I_eq] at h1; omega
end
/-- What a step keeps. -/
def Next (u : En.Dop.Unt) (K : Int) (s s' : St) : Prop := Goes u s s' ∧ Inv u (K + 8192) s' ∧ s.out <+: s'.out
section
variable {u : En.Dop.Unt} {K : Int} {mem : List Int} {sp : Int} {inp : List Int} {fr : En.Dop.Frm} {r : List En.Dop.Frm} {e c : Int} {out : List Int}
  (hI : Inv u K ⟨mem, sp, inp, fr :: r, false, e, c, out⟩)
include hI
theorem inv_over (mem' : List Int) (sp' : Int) (inp' : List Int) (rs' : List En.Dop.Frm) (e' c' : Int) (hm : mem'.length = 4096) (hi : (∀ x ∈ inp', 0 ≤ x ∧ x ≤ 255) ∧ inp'.length ≤ 200) (he : e' = 1 ∨ e' = 2 ∨ e' = 3) : Inv u (K + 8192) ⟨mem', sp', inp', rs', true, e', c', out⟩ :=
  { mem := hm, inp := hi, live := fun h => (by cases h), over := fun _ => he, out := by have h : 8192 * I out.length ≤ K := hI.out; show 8192 * I out.length ≤ K + 8192; omega }
theorem inv_top (mem' : List Int) (inp' : List Int) (rg : List Int) (a : Int) (out' : List Int) (hm : mem'.length = 4096) (hi : (∀ x ∈ inp', 0 ≤ x ∧ x ≤ 255) ∧ inp'.length ≤ 200) (hr : rg.length = fr.regs.length) (ha : 0 ≤ a ∧ a < I fr.f.code.length)
    (ho : out'.length ≤ out.length + 1) : Inv u (K + 8192) ⟨mem', sp, inp', ⟨fr.f, rg, fr.base, a, fr.dst⟩ :: r, false, e, c, out'⟩ := by
  obtain ⟨h1, h2, h3, h4, h5⟩ := hI.live rfl
  refine { mem := hm, inp := hi, live := fun _ => ⟨(h1.mono).set rg a hr ha, by simp, by simp only at h3 ⊢; omega, by simp only at h4 ⊢; omega, ?_⟩, over := fun h => (by cases h), out := ?_ }
  · simp only [I_eq, List.length_cons] at h5 ⊢; omega
  · have := hI.out; simp only [I_eq] at this ⊢; omega
end
end Go.Proofs.Law
