/-
  Layer 7, plain: what a step of the run comes to, kind by kind.
-/
import Derived.Test.YtfonahhlkanabaaLawF
set_option maxRecDepth 20000
set_option maxHeartbeats 400000
namespace Go.Proofs.Law
open Go Go.En Go.Proofs
section
variable {α : Type}
set_option linter.unusedSimpArgs false in
theorem top_nat (pre : List α) (x : α) : (I (pre ++ [x]).length - 1).toNat = pre.length := by simp only [I_eq, List.length_append, List.length_cons, List.length_nil]; omega
set_option linter.unusedSimpArgs false in
theorem top_nn (pre : List α) (x : α) : (0 ≤ I (pre ++ [x]).length - 1 ∧ I (pre ++ [x]).length - 1 < I (pre ++ [x]).length) = True := by simp only [I_eq, List.length_append, List.length_cons, List.length_nil, eq_iff_iff, iff_true]; omega
set_option linter.unusedSimpArgs false in
theorem top_nn2 (pre : List α) (x : α) : (0 ≤ I (pre ++ [x]).length - 1 ∧ I (pre ++ [x]).length - 1 ≤ I (pre ++ [x]).length) = True := by simp only [I_eq, List.length_append, List.length_cons, List.length_nil, eq_iff_iff, iff_true]; omega
set_option linter.unusedSimpArgs false in
theorem top_in (pre : List α) (x : α) (h : pre.length < 10000000) : inR (I (pre ++ [x]).length - 1) = true := by rw [inR_iff]; simp only [I_eq, List.length_append, List.length_cons, List.length_nil]; omega
set_option linter.unusedSimpArgs false in
theorem top_lt (pre : List α) (x : α) : (pre.length < (pre ++ [x]).length) = True := by simp
set_option linter.unusedSimpArgs false in
theorem top_get (pre : List α) (x d : α) : (pre ++ [x]).getD pre.length d = x := by simp [List.getD]
set_option linter.unusedSimpArgs false in
theorem top_set (pre : List α) (x y : α) : (pre ++ [x]).set pre.length y = pre ++ [y] := by simp
set_option linter.unusedSimpArgs false in
theorem top_take (pre : List α) (x : α) : List.take pre.length (pre ++ [x]) = pre := by simp
end
set_option linter.unusedSimpArgs false in
theorem step_head (by_ : List (List UInt8 × En.Dop.Fnc)) (mem : List Int) (sp : Int) (inp : List Int) (pre : List En.Dop.Frm) (fr : En.Dop.Frm) (ov : Bool) (e c : Int) (out : List Int) (i : En.Dop.Ins)
    (hp : pre.length < 10000000) (hi : fr.f.code.getD fr.at_.toNat Dop.d3 = i) (ha : (0 ≤ fr.at_ ∧ fr.at_ < I fr.f.code.length) = True) (hb : inR (fr.at_ + 1) = true) (h6 : ¬ i.kind = 6) (h7 : ¬ i.kind = 7) :
    Try.m27 by_ mem sp inp (pre ++ [fr]) ov e c out = Try.m27_8 pre.length i.kind by_ mem sp inp ov e c out (pre ++ [⟨fr.f, fr.regs, fr.base, fr.at_ + 1, fr.dst⟩]) i := by
  rw [Try.m27_eq]
  simp only [top_nat, top_nn, top_in _ _ hp, top_lt, top_get, top_set, hi, ha, hb, h6, h7, decide_true, decide_false, if_true, if_false, ↓reduceIte, Bool.false_eq_true]
set_option linter.unusedSimpArgs false in
theorem step_1 (by_ : List (List UInt8 × En.Dop.Fnc)) (mem : List Int) (sp : Int) (inp : List Int) (pre : List En.Dop.Frm) (fr : En.Dop.Frm) (ov : Bool) (e c : Int) (out : List Int) (i : En.Dop.Ins) (hk : i.kind = 1) (hd : (0 ≤ i.dst ∧ i.dst < I fr.regs.length) = True) (hd' : (i.dst.toNat < fr.regs.length) = True) :
    Try.m27_8 pre.length i.kind by_ mem sp inp ov e c out (pre ++ [fr]) i = some ((), ((by_, (mem, (sp, (inp, (pre ++ [⟨fr.f, fr.regs.set i.dst.toNat (i.n), fr.base, fr.at_, fr.dst⟩], (ov, (e, (c, (out, ()))))))))), ())) := by
  rw [Try.m27_8_eq]
  simp (decide := true) only [hk, hd, hd', top_nat, top_nn, top_nn2, top_lt, top_get, top_set, top_take, decide_true, decide_false, if_true, if_false, ↓reduceIte, Bool.false_eq_true, Bool.and_self, and_self, true_and, and_true, Option.bind, Bool.true_and, Bool.not_true, Bool.not_false]
  try rfl
set_option linter.unusedSimpArgs false in
theorem step_2 (by_ : List (List UInt8 × En.Dop.Fnc)) (mem : List Int) (sp : Int) (inp : List Int) (pre : List En.Dop.Frm) (fr : En.Dop.Frm) (ov : Bool) (e c : Int) (out : List Int) (i : En.Dop.Ins) (hk : i.kind = 2) (hd : (0 ≤ i.dst ∧ i.dst < I fr.regs.length) = True) (hd' : (i.dst.toNat < fr.regs.length) = True) (hra : (0 ≤ i.a ∧ i.a < I fr.regs.length) = True) (hra' : (i.a.toNat < fr.regs.length) = True) (v : Int) (is : Bool) (hdo : Try.m47 i.op (fr.regs.getD i.a.toNat 0) 0 = some ((v, (is, ())), ())) :
    Try.m27_8 pre.length i.kind by_ mem sp inp ov e c out (pre ++ [fr]) i = if is = true then some ((), ((by_, (mem, (sp, (inp, (pre ++ [⟨fr.f, fr.regs.set i.dst.toNat (v), fr.base, fr.at_, fr.dst⟩], (ov, (e, (c, (out, ()))))))))), ())) else some ((), ((by_, (mem, (sp, (inp, (pre ++ [fr], (true, (2, (2, (out, ()))))))))), ())) := by
  rw [Try.m27_8_eq]
  simp (decide := true) only [hk, hd, hd', hra, hra', hdo, top_nat, top_nn, top_nn2, top_lt, top_get, top_set, top_take, decide_true, decide_false, if_true, if_false, ↓reduceIte, Bool.false_eq_true, Bool.and_self, and_self, true_and, and_true, Option.bind, Bool.true_and, Bool.not_true, Bool.not_false]
  cases is <;> rfl
set_option linter.unusedSimpArgs false in
theorem step_3 (by_ : List (List UInt8 × En.Dop.Fnc)) (mem : List Int) (sp : Int) (inp : List Int) (pre : List En.Dop.Frm) (fr : En.Dop.Frm) (ov : Bool) (e c : Int) (out : List Int) (i : En.Dop.Ins) (hk : i.kind = 3) (hd : (0 ≤ i.dst ∧ i.dst < I fr.regs.length) = True) (hd' : (i.dst.toNat < fr.regs.length) = True) (hra : (0 ≤ i.a ∧ i.a < I fr.regs.length) = True) (hra' : (i.a.toNat < fr.regs.length) = True) (hrb : (0 ≤ i.b ∧ i.b < I fr.regs.length) = True) (hrb' : (i.b.toNat < fr.regs.length) = True) (v : Int) (is : Bool) (hdo : Try.m47 i.op (fr.regs.getD i.a.toNat 0) (fr.regs.getD i.b.toNat 0) = some ((v, (is, ())), ())) :
    Try.m27_8 pre.length i.kind by_ mem sp inp ov e c out (pre ++ [fr]) i = if is = true then some ((), ((by_, (mem, (sp, (inp, (pre ++ [⟨fr.f, fr.regs.set i.dst.toNat (v), fr.base, fr.at_, fr.dst⟩], (ov, (e, (c, (out, ()))))))))), ())) else some ((), ((by_, (mem, (sp, (inp, (pre ++ [fr], (true, (2, (2, (out, ()))))))))), ())) := by
  rw [Try.m27_8_eq]
  simp (decide := true) only [hk, hd, hd', hra, hra', hrb, hrb', hdo, top_nat, top_nn, top_nn2, top_lt, top_get, top_set, top_take, decide_true, decide_false, if_true, if_false, ↓reduceIte, Bool.false_eq_true, Bool.and_self, and_self, true_and, and_true, Option.bind, Bool.true_and, Bool.not_true, Bool.not_false]
  cases is <;> rfl
set_option linter.unusedSimpArgs false in
theorem step_4 (by_ : List (List UInt8 × En.Dop.Fnc)) (mem : List Int) (sp : Int) (inp : List Int) (pre : List En.Dop.Frm) (fr : En.Dop.Frm) (ov : Bool) (e c : Int) (out : List Int) (i : En.Dop.Ins) (hk : i.kind = 4) (hd : (0 ≤ i.dst ∧ i.dst < I fr.regs.length) = True) (hd' : (i.dst.toNat < fr.regs.length) = True) (hra : (0 ≤ i.a ∧ i.a < I fr.regs.length) = True) (hra' : (i.a.toNat < fr.regs.length) = True) :
    Try.m27_8 pre.length i.kind by_ mem sp inp ov e c out (pre ++ [fr]) i = some ((), ((by_, (mem, (sp, (inp, (pre ++ [⟨fr.f, fr.regs.set i.dst.toNat (fr.regs.getD i.a.toNat 0), fr.base, fr.at_, fr.dst⟩], (ov, (e, (c, (out, ()))))))))), ())) := by
  rw [Try.m27_8_eq]
  simp (decide := true) only [hk, hd, hd', hra, hra', top_nat, top_nn, top_nn2, top_lt, top_get, top_set, top_take, decide_true, decide_false, if_true, if_false, ↓reduceIte, Bool.false_eq_true, Bool.and_self, and_self, true_and, and_true, Option.bind, Bool.true_and, Bool.not_true, Bool.not_false]
  try rfl
set_option linter.unusedSimpArgs false in
theorem step_5 (by_ : List (List UInt8 × En.Dop.Fnc)) (mem : List Int) (sp : Int) (inp : List Int) (pre : List En.Dop.Frm) (fr : En.Dop.Frm) (ov : Bool) (e c : Int) (out : List Int) (i : En.Dop.Ins) (hk : i.kind = 5) (hd : (0 ≤ i.dst ∧ i.dst < I fr.regs.length) = True) (hd' : (i.dst.toNat < fr.regs.length) = True) (hb : inR (fr.base + i.n) = true) :
    Try.m27_8 pre.length i.kind by_ mem sp inp ov e c out (pre ++ [fr]) i = some ((), ((by_, (mem, (sp, (inp, (pre ++ [⟨fr.f, fr.regs.set i.dst.toNat (IntKind.i32.wrap (IntKind.u32.wrap (fr.base + i.n))), fr.base, fr.at_, fr.dst⟩], (ov, (e, (c, (out, ()))))))))), ())) := by
  rw [Try.m27_8_eq]
  simp (decide := true) only [hk, hd, hd', hb, top_nat, top_nn, top_nn2, top_lt, top_get, top_set, top_take, decide_true, decide_false, if_true, if_false, ↓reduceIte, Bool.false_eq_true, Bool.and_self, and_self, true_and, and_true, Option.bind, Bool.true_and, Bool.not_true, Bool.not_false, Try.m39_eq, wrap_in]
  try rfl
set_option linter.unusedSimpArgs false in
theorem step_9_nil (by_ : List (List UInt8 × En.Dop.Fnc)) (mem : List Int) (sp : Int) (inp : List Int) (pre : List En.Dop.Frm) (fr : En.Dop.Frm) (ov : Bool) (e c : Int) (out : List Int) (i : En.Dop.Ins) (hk : i.kind = 9) (hd : (0 ≤ i.dst ∧ i.dst < I fr.regs.length) = True) (hd' : (i.dst.toNat < fr.regs.length) = True) (hn : inp = []) :
    Try.m27_8 pre.length i.kind by_ mem sp inp ov e c out (pre ++ [fr]) i = some ((), ((by_, (mem, (sp, (inp, (pre ++ [⟨fr.f, fr.regs.set i.dst.toNat (-1), fr.base, fr.at_, fr.dst⟩], (ov, (e, (c, (out, ()))))))))), ())) := by
  have h0 : ¬ 0 < I inp.length := by subst hn; simp [I_eq]
  rw [Try.m27_8_eq]
  simp (decide := true) only [hk, hd, hd', h0, top_nat, top_nn, top_nn2, top_lt, top_get, top_set, top_take, decide_true, decide_false, if_true, if_false, ↓reduceIte, Bool.false_eq_true, Bool.and_self, and_self, true_and, and_true, Option.bind, Bool.true_and, Bool.not_true, Bool.not_false]
  try rfl
set_option linter.unusedSimpArgs false in
theorem step_9_cons (by_ : List (List UInt8 × En.Dop.Fnc)) (mem : List Int) (sp : Int) (inp : List Int) (pre : List En.Dop.Frm) (fr : En.Dop.Frm) (ov : Bool) (e c : Int) (out : List Int) (i : En.Dop.Ins) (hk : i.kind = 9) (hd : (0 ≤ i.dst ∧ i.dst < I fr.regs.length) = True) (hd' : (i.dst.toNat < fr.regs.length) = True) (x : Int) (r : List Int) (hn : inp = x :: r) (hx : inR x = true) (hl : inp.length < 1000000) :
    Try.m27_8 pre.length i.kind by_ mem sp inp ov e c out (pre ++ [fr]) i = some ((), ((by_, (mem, (sp, (r, (pre ++ [⟨fr.f, (fr.regs.set i.dst.toNat (-1)).set i.dst.toNat x, fr.base, fr.at_, fr.dst⟩], (ov, (e, (c, (out, ()))))))))), ())) := by
  have h0 : 0 < I inp.length := by subst hn; simp only [I_eq, List.length_cons]; omega
  have h1 : (1 ≤ I inp.length ∧ I inp.length ≤ I inp.length) = True := by simp only [eq_iff_iff, iff_true]; omega
  have h2 : inp.getD (Int.toNat 0) 0 = x := by subst hn; rfl
  have h3 : List.take (I inp.length).toNat inp = inp := by rw [I_nat]; exact List.take_length
  have h4 : List.drop (Int.toNat 1) inp = r := by subst hn; rfl
  rw [Try.m27_8_eq]
  simp (decide := true) only [hk, hd, hd', h0, h1, h2, h3, h4, hx, top_nat, top_nn, top_nn2, top_lt, top_get, top_set, top_take, decide_true, decide_false, if_true, if_false, ↓reduceIte, Bool.false_eq_true, Bool.and_self, and_self, true_and, and_true, Option.bind, Bool.true_and, Bool.not_true, Bool.not_false, List.length_set]
  try have h5 : List.drop (Int.toNat 1) (List.take (I inp.length).toNat inp) = r := by rw [h3, h4]
  try exact congrArg (fun z : List Int => some ((), ((by_, (mem, (sp, (z, (pre ++ [⟨fr.f, (fr.regs.set i.dst.toNat (-1)).set i.dst.toNat x, fr.base, fr.at_, fr.dst⟩], (ov, (e, (c, (out, ()))))))))), ()))) h5
set_option linter.unusedSimpArgs false in
theorem step_10 (by_ : List (List UInt8 × En.Dop.Fnc)) (mem : List Int) (sp : Int) (inp : List Int) (pre : List En.Dop.Frm) (fr : En.Dop.Frm) (ov : Bool) (e c : Int) (out : List Int) (i : En.Dop.Ins) (hk : i.kind = 10) (hra : (0 ≤ i.a ∧ i.a < I fr.regs.length) = True) (hra' : (i.a.toNat < fr.regs.length) = True) (ho : room 1 (out.length + [IntKind.u8.wrap (fr.regs.getD i.a.toNat 0)].length) = true) :
    Try.m27_8 pre.length i.kind by_ mem sp inp ov e c out (pre ++ [fr]) i = some ((), ((by_, (mem, (sp, (inp, (pre ++ [fr], (ov, (e, (c, (out ++ [IntKind.u8.wrap (fr.regs.getD i.a.toNat 0)], ()))))))))), ())) := by
  rw [Try.m27_8_eq]
  simp (decide := true) only [hk, hra, hra', andC_none, ho, top_nat, top_nn, top_nn2, top_lt, top_get, top_set, top_take, decide_true, decide_false, if_true, if_false, ↓reduceIte, Bool.false_eq_true, Bool.and_self, and_self, true_and, and_true, Option.bind, Bool.true_and, Bool.not_true, Bool.not_false]
  try rfl
set_option linter.unusedSimpArgs false in
theorem step_11 (by_ : List (List UInt8 × En.Dop.Fnc)) (mem : List Int) (sp : Int) (inp : List Int) (pre : List En.Dop.Frm) (fr : En.Dop.Frm) (ov : Bool) (e c : Int) (out : List Int) (i : En.Dop.Ins) (hk : i.kind = 11) :
    Try.m27_8 pre.length i.kind by_ mem sp inp ov e c out (pre ++ [fr]) i = some ((), ((by_, (mem, (sp, (inp, (pre ++ [⟨fr.f, fr.regs, fr.base, i.to_, fr.dst⟩], (ov, (e, (c, (out, ()))))))))), ())) := by
  rw [Try.m27_8_eq]
  simp (decide := true) only [hk, hk, top_nat, top_nn, top_nn2, top_lt, top_get, top_set, top_take, decide_true, decide_false, if_true, if_false, ↓reduceIte, Bool.false_eq_true, Bool.and_self, and_self, true_and, and_true, Option.bind, Bool.true_and, Bool.not_true, Bool.not_false]
  try rfl
set_option linter.unusedSimpArgs false in
theorem step_12 (by_ : List (List UInt8 × En.Dop.Fnc)) (mem : List Int) (sp : Int) (inp : List Int) (pre : List En.Dop.Frm) (fr : En.Dop.Frm) (ov : Bool) (e c : Int) (out : List Int) (i : En.Dop.Ins) (hk : i.kind = 12) (hra : (0 ≤ i.a ∧ i.a < I fr.regs.length) = True) (hra' : (i.a.toNat < fr.regs.length) = True) :
    Try.m27_8 pre.length i.kind by_ mem sp inp ov e c out (pre ++ [fr]) i = if fr.regs.getD i.a.toNat 0 = 0 then some ((), ((by_, (mem, (sp, (inp, (pre ++ [⟨fr.f, fr.regs, fr.base, i.else_, fr.dst⟩], (ov, (e, (c, (out, ()))))))))), ())) else some ((), ((by_, (mem, (sp, (inp, (pre ++ [⟨fr.f, fr.regs, fr.base, i.to_, fr.dst⟩], (ov, (e, (c, (out, ()))))))))), ())) := by
  rw [Try.m27_8_eq]
  simp (decide := true) only [hk, hra, hra', top_nat, top_nn, top_nn2, top_lt, top_get, top_set, top_take, decide_true, decide_false, if_true, if_false, ↓reduceIte, Bool.false_eq_true, Bool.and_self, and_self, true_and, and_true, Option.bind, Bool.true_and, Bool.not_true, Bool.not_false]
  by_cases h : fr.regs.getD i.a.toNat 0 = 0 <;> simp only [h, decide_true, decide_false, Bool.not_true, Bool.not_false, if_true, if_false, Bool.false_eq_true] <;> rfl
set_option linter.unusedSimpArgs false in
theorem m46_v (n : Int) : Try.m46 n = some ((IntKind.u32.wrap n, ()), ()) := by
  have h : inR (IntKind.u32.wrap n) = true := by rw [inR_iff, wrap_u]; omega
  rw [Try.m46_eq, h]; rfl
set_option linter.unusedSimpArgs false in
theorem step_6_lo (by_ : List (List UInt8 × En.Dop.Fnc)) (mem : List Int) (sp : Int) (inp : List Int) (pre : List En.Dop.Frm) (fr : En.Dop.Frm) (ov : Bool) (e c : Int) (out : List Int) (i : En.Dop.Ins) (hk : i.kind = 6) (hp : pre.length < 10000000) (hi : fr.f.code.getD fr.at_.toNat Dop.d3 = i) (ha : (0 ≤ fr.at_ ∧ fr.at_ < I fr.f.code.length) = True) (hb : inR (fr.at_ + 1) = true) (a : Int) (hA : IntKind.u32.wrap (fr.regs.getD i.a.toNat 0) = a) (hra : (0 ≤ i.a ∧ i.a < I fr.regs.length) = True) (hra' : (i.a.toNat < fr.regs.length) = True) (h1 : a < 1) :
    Try.m27 by_ mem sp inp (pre ++ [fr]) ov e c out = some ((), ((by_, (mem, (sp, (inp, (pre ++ [⟨fr.f, fr.regs, fr.base, fr.at_ + 1, fr.dst⟩], (true, (2, (1, (out, ()))))))))), ())) := by
  rw [Try.m27_eq]
  simp (decide := true) only [hi, ha, hb, top_in _ _ hp, hk, hA, m46_v, hra, hra', h1, top_nat, top_nn, top_nn2, top_lt, top_get, top_set, top_take, decide_true, decide_false, if_true, if_false, ↓reduceIte, Bool.false_eq_true, Bool.and_self, and_self, true_and, and_true, Option.bind, Bool.true_and, Bool.not_true, Bool.not_false]
  try rfl
set_option linter.unusedSimpArgs false in
theorem step_6_hi (by_ : List (List UInt8 × En.Dop.Fnc)) (mem : List Int) (sp : Int) (inp : List Int) (pre : List En.Dop.Frm) (fr : En.Dop.Frm) (ov : Bool) (e c : Int) (out : List Int) (i : En.Dop.Ins) (hk : i.kind = 6) (hp : pre.length < 10000000) (hi : fr.f.code.getD fr.at_.toNat Dop.d3 = i) (ha : (0 ≤ fr.at_ ∧ fr.at_ < I fr.f.code.length) = True) (hb : inR (fr.at_ + 1) = true) (a : Int) (hA : IntKind.u32.wrap (fr.regs.getD i.a.toNat 0) = a) (hra : (0 ≤ i.a ∧ i.a < I fr.regs.length) = True) (hra' : (i.a.toNat < fr.regs.length) = True) (h1 : ¬ a < 1) (h2 : I mem.length ≤ a) :
    Try.m27 by_ mem sp inp (pre ++ [fr]) ov e c out = some ((), ((by_, (mem, (sp, (inp, (pre ++ [⟨fr.f, fr.regs, fr.base, fr.at_ + 1, fr.dst⟩], (true, (2, (1, (out, ()))))))))), ())) := by
  rw [Try.m27_eq]
  simp (decide := true) only [hi, ha, hb, top_in _ _ hp, hk, hA, m46_v, hra, hra', h1, h2, top_nat, top_nn, top_nn2, top_lt, top_get, top_set, top_take, decide_true, decide_false, if_true, if_false, ↓reduceIte, Bool.false_eq_true, Bool.and_self, and_self, true_and, and_true, Option.bind, Bool.true_and, Bool.not_true, Bool.not_false]
  try rfl
set_option linter.unusedSimpArgs false in
theorem step_7_lo (by_ : List (List UInt8 × En.Dop.Fnc)) (mem : List Int) (sp : Int) (inp : List Int) (pre : List En.Dop.Frm) (fr : En.Dop.Frm) (ov : Bool) (e c : Int) (out : List Int) (i : En.Dop.Ins) (hk : i.kind = 7) (hp : pre.length < 10000000) (hi : fr.f.code.getD fr.at_.toNat Dop.d3 = i) (ha : (0 ≤ fr.at_ ∧ fr.at_ < I fr.f.code.length) = True) (hb : inR (fr.at_ + 1) = true) (a : Int) (hA : IntKind.u32.wrap (fr.regs.getD i.a.toNat 0) = a) (hra : (0 ≤ i.a ∧ i.a < I fr.regs.length) = True) (hra' : (i.a.toNat < fr.regs.length) = True) (h1 : a < 1) :
    Try.m27 by_ mem sp inp (pre ++ [fr]) ov e c out = some ((), ((by_, (mem, (sp, (inp, (pre ++ [⟨fr.f, fr.regs, fr.base, fr.at_ + 1, fr.dst⟩], (true, (2, (1, (out, ()))))))))), ())) := by
  rw [Try.m27_eq]
  simp (decide := true) only [hi, ha, hb, top_in _ _ hp, hk, hA, m46_v, hra, hra', h1, top_nat, top_nn, top_nn2, top_lt, top_get, top_set, top_take, decide_true, decide_false, if_true, if_false, ↓reduceIte, Bool.false_eq_true, Bool.and_self, and_self, true_and, and_true, Option.bind, Bool.true_and, Bool.not_true, Bool.not_false]
  try rfl
set_option linter.unusedSimpArgs false in
theorem step_7_hi (by_ : List (List UInt8 × En.Dop.Fnc)) (mem : List Int) (sp : Int) (inp : List Int) (pre : List En.Dop.Frm) (fr : En.Dop.Frm) (ov : Bool) (e c : Int) (out : List Int) (i : En.Dop.Ins) (hk : i.kind = 7) (hp : pre.length < 10000000) (hi : fr.f.code.getD fr.at_.toNat Dop.d3 = i) (ha : (0 ≤ fr.at_ ∧ fr.at_ < I fr.f.code.length) = True) (hb : inR (fr.at_ + 1) = true) (a : Int) (hA : IntKind.u32.wrap (fr.regs.getD i.a.toNat 0) = a) (hra : (0 ≤ i.a ∧ i.a < I fr.regs.length) = True) (hra' : (i.a.toNat < fr.regs.length) = True) (h1 : ¬ a < 1) (h2 : I mem.length ≤ a) :
    Try.m27 by_ mem sp inp (pre ++ [fr]) ov e c out = some ((), ((by_, (mem, (sp, (inp, (pre ++ [⟨fr.f, fr.regs, fr.base, fr.at_ + 1, fr.dst⟩], (true, (2, (1, (out, ()))))))))), ())) := by
  rw [Try.m27_eq]
  simp (decide := true) only [hi, ha, hb, top_in _ _ hp, hk, hA, m46_v, hra, hra', h1, h2, top_nat, top_nn, top_nn2, top_lt, top_get, top_set, top_take, decide_true, decide_false, if_true, if_false, ↓reduceIte, Bool.false_eq_true, Bool.and_self, and_self, true_and, and_true, Option.bind, Bool.true_and, Bool.not_true, Bool.not_false]
  try rfl
set_option linter.unusedSimpArgs false in
theorem step_6 (by_ : List (List UInt8 × En.Dop.Fnc)) (mem : List Int) (sp : Int) (inp : List Int) (pre : List En.Dop.Frm) (fr : En.Dop.Frm) (ov : Bool) (e c : Int) (out : List Int) (i : En.Dop.Ins) (hk : i.kind = 6) (hp : pre.length < 10000000) (hi : fr.f.code.getD fr.at_.toNat Dop.d3 = i) (ha : (0 ≤ fr.at_ ∧ fr.at_ < I fr.f.code.length) = True) (hb : inR (fr.at_ + 1) = true) (a : Int) (hA : IntKind.u32.wrap (fr.regs.getD i.a.toNat 0) = a) (hra : (0 ≤ i.a ∧ i.a < I fr.regs.length) = True) (hra' : (i.a.toNat < fr.regs.length) = True) (hd : (0 ≤ i.dst ∧ i.dst < I fr.regs.length) = True) (hd' : (i.dst.toNat < fr.regs.length) = True) (h1 : ¬ a < 1) (h2 : ¬ I mem.length ≤ a) (h3 : (0 ≤ a ∧ a < I mem.length) = True) (h4 : (a.toNat < mem.length) = True) :
    Try.m27 by_ mem sp inp (pre ++ [fr]) ov e c out = some ((), ((by_, (mem, (sp, (inp, (pre ++ [⟨fr.f, fr.regs.set i.dst.toNat (mem.getD a.toNat 0), fr.base, fr.at_ + 1, fr.dst⟩], (ov, (e, (c, (out, ()))))))))), ())) := by
  rw [Try.m27_eq]
  simp (decide := true) only [hi, ha, hb, top_in _ _ hp, hk, hA, m46_v, hra, hra', hd, hd', h1, h2, h3, h4, top_nat, top_nn, top_nn2, top_lt, top_get, top_set, top_take, decide_true, decide_false, if_true, if_false, ↓reduceIte, Bool.false_eq_true, Bool.and_self, and_self, true_and, and_true, Option.bind, Bool.true_and, Bool.not_true, Bool.not_false]
  try rfl
set_option linter.unusedSimpArgs false in
theorem step_7 (by_ : List (List UInt8 × En.Dop.Fnc)) (mem : List Int) (sp : Int) (inp : List Int) (pre : List En.Dop.Frm) (fr : En.Dop.Frm) (ov : Bool) (e c : Int) (out : List Int) (i : En.Dop.Ins) (hk : i.kind = 7) (hp : pre.length < 10000000) (hi : fr.f.code.getD fr.at_.toNat Dop.d3 = i) (ha : (0 ≤ fr.at_ ∧ fr.at_ < I fr.f.code.length) = True) (hb : inR (fr.at_ + 1) = true) (a : Int) (hA : IntKind.u32.wrap (fr.regs.getD i.a.toNat 0) = a) (hra : (0 ≤ i.a ∧ i.a < I fr.regs.length) = True) (hra' : (i.a.toNat < fr.regs.length) = True) (hrb : (0 ≤ i.b ∧ i.b < I fr.regs.length) = True) (hrb' : (i.b.toNat < fr.regs.length) = True) (h1 : ¬ a < 1) (h2 : ¬ I mem.length ≤ a) (h3 : (0 ≤ a ∧ a < I mem.length) = True) (h4 : (a.toNat < mem.length) = True) :
    Try.m27 by_ mem sp inp (pre ++ [fr]) ov e c out = some ((), ((by_, (mem.set a.toNat (fr.regs.getD i.b.toNat 0), (sp, (inp, (pre ++ [⟨fr.f, fr.regs, fr.base, fr.at_ + 1, fr.dst⟩], (ov, (e, (c, (out, ()))))))))), ())) := by
  rw [Try.m27_eq]
  simp (decide := true) only [hi, ha, hb, top_in _ _ hp, hk, hA, m46_v, hra, hra', hrb, hrb', h1, h2, h3, h4, top_nat, top_nn, top_nn2, top_lt, top_get, top_set, top_take, decide_true, decide_false, if_true, if_false, ↓reduceIte, Bool.false_eq_true, Bool.and_self, and_self, true_and, and_true, Option.bind, Bool.true_and, Bool.not_true, Bool.not_false]
  try rfl
set_option linter.unusedSimpArgs false in
theorem step_13_end (by_ : List (List UInt8 × En.Dop.Fnc)) (mem : List Int) (sp : Int) (inp : List Int) (pre : List En.Dop.Frm) (fr : En.Dop.Frm) (ov : Bool) (e c : Int) (out : List Int) (i : En.Dop.Ins) (hk : i.kind = 13) (hra : (0 ≤ i.a ∧ i.a < I fr.regs.length) = True) (hra' : (i.a.toNat < fr.regs.length) = True) (hsp : inR (sp - fr.f.frame) = true) (hn : pre = []) :
    Try.m27_8 pre.length i.kind by_ mem sp inp ov e c out (pre ++ [fr]) i = some ((), ((by_, (mem, (sp - fr.f.frame, (inp, ([], (true, (1, (fr.regs.getD i.a.toNat 0, (out, ()))))))))), ())) := by
  subst hn
  have h0 : inR (I ([] ++ [fr] : List En.Dop.Frm).length - 1) = true := rfl
  have h1 : I ([] : List En.Dop.Frm).length = 0 := rfl
  rw [Try.m27_8_eq]
  simp (decide := true) only [hk, hra, hra', hsp, h0, h1, top_nat, top_nn, top_nn2, top_lt, top_get, top_set, top_take, decide_true, decide_false, if_true, if_false, ↓reduceIte, Bool.false_eq_true, Bool.and_self, and_self, true_and, and_true, Option.bind, Bool.true_and, Bool.not_true, Bool.not_false]
  try rfl
set_option linter.unusedSimpArgs false in
theorem step_13_no (by_ : List (List UInt8 × En.Dop.Fnc)) (mem : List Int) (sp : Int) (inp : List Int) (pre : List En.Dop.Frm) (fr : En.Dop.Frm) (ov : Bool) (e c : Int) (out : List Int) (i : En.Dop.Ins) (hk : i.kind = 13) (hra : (0 ≤ i.a ∧ i.a < I fr.regs.length) = True) (hra' : (i.a.toNat < fr.regs.length) = True) (hsp : inR (sp - fr.f.frame) = true) (hp : pre.length < 10000000) (hn : pre ≠ []) (hdst : ¬ 0 ≤ fr.dst) :
    Try.m27_8 pre.length i.kind by_ mem sp inp ov e c out (pre ++ [fr]) i = some ((), ((by_, (mem, (sp - fr.f.frame, (inp, (pre, (ov, (e, (c, (out, ()))))))))), ())) := by
  have h0 := top_in pre fr hp
  have h1 : ¬ I pre.length = 0 := by cases pre with | nil => exact absurd rfl hn | cons x r => simp only [I_eq, List.length_cons]; omega
  rw [Try.m27_8_eq]
  simp (decide := true) only [hk, hra, hra', hsp, h0, h1, hdst, top_nat, top_nn, top_nn2, top_lt, top_get, top_set, top_take, decide_true, decide_false, if_true, if_false, ↓reduceIte, Bool.false_eq_true, Bool.and_self, and_self, true_and, and_true, Option.bind, Bool.true_and, Bool.not_true, Bool.not_false]
  try exact congrArg (fun z : List En.Dop.Frm => some ((), ((by_, (mem, (sp - fr.f.frame, (inp, (z, (ov, (e, (c, (out, ()))))))))), ()))) (top_take pre fr)
set_option linter.unusedSimpArgs false in
theorem step_13_set (by_ : List (List UInt8 × En.Dop.Fnc)) (mem : List Int) (sp : Int) (inp : List Int) (pre : List En.Dop.Frm) (fr : En.Dop.Frm) (ov : Bool) (e c : Int) (out : List Int) (i : En.Dop.Ins) (hk : i.kind = 13) (p2 : List En.Dop.Frm) (g : En.Dop.Frm) (hn : pre = p2 ++ [g]) (hra : (0 ≤ i.a ∧ i.a < I fr.regs.length) = True) (hra' : (i.a.toNat < fr.regs.length) = True) (hsp : inR (sp - fr.f.frame) = true) (hp : pre.length < 10000000) (hdst : 0 ≤ fr.dst) (hg : fr.dst < I g.regs.length) (hg' : (fr.dst.toNat < g.regs.length) = True) :
    Try.m27_8 pre.length i.kind by_ mem sp inp ov e c out (pre ++ [fr]) i = some ((), ((by_, (mem, (sp - fr.f.frame, (inp, (p2 ++ [⟨g.f, g.regs.set fr.dst.toNat (fr.regs.getD i.a.toNat 0), g.base, g.at_, g.dst⟩], (ov, (e, (c, (out, ()))))))))), ())) := by
  subst hn
  have h0 := top_in (p2 ++ [g]) fr hp
  have h2 := top_in p2 g (by simp only [List.length_append] at hp; omega)
  have h1 : ¬ I (p2 ++ [g]).length = 0 := by simp only [I_eq, List.length_append, List.length_cons, List.length_nil]; omega
  rw [Try.m27_8_eq]
  simp (decide := true) only [hk, hra, hra', hsp, h0, h1, h2, hdst, hg, hg', top_nat, top_nn, top_nn2, top_lt, top_get, top_set, top_take, decide_true, decide_false, if_true, if_false, ↓reduceIte, Bool.false_eq_true, Bool.and_self, and_self, true_and, and_true, Option.bind, Bool.true_and, Bool.not_true, Bool.not_false]
  try rfl
end Go.Proofs.Law
