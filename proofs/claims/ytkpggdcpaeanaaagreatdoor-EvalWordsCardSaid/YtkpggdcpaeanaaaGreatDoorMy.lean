/- Functions of the seat, lifted: plan, model, contract, equations. Written by a program (Lift) that ran the layer's evaluation; Lean checks each line. -/
import Derived.Test.YtkpggdcpaeanaaaGreatDoorMt
import Derived.Test.YtkpggdcpaeanaaaGreatDoorMx
set_option maxRecDepth 100000
set_option maxHeartbeats 4000000
namespace Go.Proofs.Tryz
open Go Go.En
@[reducible] def m12.q5 : Cut := ⟨[[0,0,0,0,0,1,0,1,1,1],[0,1,0,0,0,1,0,1,1,1],[0,1,0,0,1,0,1,1,1],[2,0,0,1,0,1,1,1],[1,0],[0,1,1,1,1]],[2,3,5,6],2,⟨[.al 0 0,.al 1 0,.fd .bool,.fd (.int .i64)],[⟨0,61,[.st 19],false⟩,⟨1,61,[.st 19],false⟩]⟩⟩
def m12.p : Pln := ⟨[(5,m12.q5)],0,⟨[.st 19,.st 19],[]⟩,⟨[.fd .bool],[]⟩,true,[(7,⟨[(0,true),(1,false),(2,true),(3,false),(4,false),(5,true),(6,false),(7,true),(8,false),(9,false),(10,true),(11,true)],[],[0,1,0,7,15,0,32,0,224,480,1023,2047],false⟩)],[]⟩
noncomputable def m12.E : Env En.Dop.D4 := envOf prog 12 tb [awk6.c,m37.c,m34.c] m12.p
theorem m12.ok : plnOk En.Dop.D4 prog 12 m12.p = true := by kernel_rfl
noncomputable def m12.c : Ctr En.Dop.D4 := ⟨12,m12.p.bn,m12.p.sp,m12.p.rs,m12.p.flat,.opt (m12.E.run 3000 m12.p.sp)⟩
theorem m12.holds : m12.c.Holds prog := fun_ctr 3000 tbOk (hct_cons awk6.holds (hct_cons m37.holds (hct_cons m34.holds hct_nil))) m12.ok
noncomputable def m12 (o : En.Dop.Rsl) (t1 : En.Dop.Rsl) : Option ((Bool × Unit) × Unit) := m12.E.run 3000 m12.p.sp ((o,t1,()),())
noncomputable def m12_5 (t5 : Bool) (t6 : Int) (b0 : En.Dop.Rsl) (b1 : En.Dop.Rsl) : Option ((Bool × Unit) × Unit) := m12.E.cut 3000 5 (((),(),t5,t6,()),((b0,()),(b1,()),()))
theorem m12_eq (o : En.Dop.Rsl) (t1 : En.Dop.Rsl) : m12 o t1 =
 if (decide ((100 : Int) < I o.output.length)) = true then
  some ((true,()),())
 else
  if (decide ((100 : Int) < I t1.output.length)) = true then
  some ((true,()),())
  else
  m12_5 (decide (I o.output.length ≤ I t1.output.length)) ((0 : Int)) (o) (t1) := by kernel_rfl
theorem m12_5_eq (t5 : Bool) (t6 : Int) (b0 : En.Dop.Rsl) (b1 : En.Dop.Rsl) : m12_5 t5 t6 b0 b1 =
 if (decide (t6 < I b0.output.length)) = true then
  if (t5) = true then
  if (decide ((0 : Int) ≤ t6 ∧ t6 < I b0.output.length)) = true then
  if (decide ((0 : Int) ≤ t6 ∧ t6 < I b1.output.length)) = true then
  if (inR (t6 + (1 : Int))) = true then
  m12_5 (decide (@List.getD Int b0.output t6.toNat (0 : Int) = @List.getD Int b1.output t6.toNat (0 : Int))) (t6 + (1 : Int)) (b0) (b1)
  else none
  else none
  else none
  else
  (m37 (b0) (b1)).bind fun y4 =>
   if (y4.fst.fst == t5) = true then
   (m34 (b0) (b1)).bind fun y6 =>
    if (t5) = true then
    if (decide (I b0.output.length = I b1.output.length)) = true then
     if (decide (b0.end_ = b1.end_)) = true then
     if (y6.fst.fst == decide (b0.code = b1.code)) = true then
      some ((true,()),())
     else
      some ((false,()),())
     else
     if (y6.fst.fst == false) = true then
      some ((true,()),())
     else
      some ((false,()),())
    else
     if (y6.fst.fst == false) = true then
     some ((true,()),())
     else
     some ((false,()),())
    else
    if (y6.fst.fst == false) = true then
     some ((true,()),())
    else
     some ((false,()),())
   else
   some ((false,()),())
 else
  (m37 (b0) (b1)).bind fun y3 =>
  if (y3.fst.fst == t5) = true then
   (m34 (b0) (b1)).bind fun y5 =>
   if (t5) = true then
    if (decide (I b0.output.length = I b1.output.length)) = true then
    if (decide (b0.end_ = b1.end_)) = true then
     if (y5.fst.fst == decide (b0.code = b1.code)) = true then
     some ((true,()),())
     else
     some ((false,()),())
    else
     if (y5.fst.fst == false) = true then
     some ((true,()),())
     else
     some ((false,()),())
    else
    if (y5.fst.fst == false) = true then
     some ((true,()),())
    else
     some ((false,()),())
   else
    if (y5.fst.fst == false) = true then
    some ((true,()),())
    else
    some ((false,()),())
  else
   some ((false,()),()) := Env.cut_eq' (E := m12.E) (f0 := 3000) (c := 5) (q := m12.q5) (by kernel_rfl) (((),(),t5,t6,()),((b0,()),(b1,()),())) (by kernel_rfl) (by kernel_rfl)
end Go.Proofs.Tryz
/- EvalWords: whether results are the same, and one output begins another one, is told by their parts. -/
set_option maxRecDepth 100000
namespace Go.Proofs
open Go Go.En Go.En.Dop
theorem ew_in {x : Int} (h0 : 0 ≤ x) (h : x ≤ 1000) : inR x = true := by
 simp [inR]; omega
theorem ew_loop (s1 s2 : List Int) (h : s1.length = s2.length) (hb : s1.length ≤ 100) : ∀ n j,n + j = s1.length → Tryz.m63_4 s1 s2 (I s1.length) (I j) = some ((decide (s1.drop j = s2.drop j),()),())
 | 0,j,hj => by
  rw [Tryz.m63_4_eq,if_neg (by simp; omega),List.drop_eq_nil_of_le (by omega),List.drop_eq_nil_of_le (by omega)]
  rfl
 | n + 1,j,hj => by
  have j1 : j < s1.length := by omega
  have j2 : j < s2.length := by omega
  have g1 : s1.getD (I j).toNat 0 = s1[j] := by simp [List.getD_eq_getElem?_getD,j1]
  have g2 : s2.getD (I j).toNat 0 = s2[j] := by simp [List.getD_eq_getElem?_getD,j2]
  have key : (s1.drop j = s2.drop j) ↔ (s1[j] = s2[j] ∧ s1.drop (j + 1) = s2.drop (j + 1)) := by
   rw [List.drop_eq_getElem_cons j1,List.drop_eq_getElem_cons j2,List.cons.injEq]
  rw [Tryz.m63_4_eq,if_pos (by simp; omega),if_pos (by simp; omega),if_pos (by simp; omega),g1,g2]
  by_cases he : s1[j] = s2[j]
  ·rw [if_neg (by simp [he]),if_pos (ew_in (by show (0 : Int) ≤ (j : Int) + 1; omega) (by show (j : Int) + 1 ≤ 1000; omega)),show I j + 1 = I (j + 1) from rfl,ew_loop s1 s2 h hb n (j + 1) (by omega)]
   simp [key,he]
  ·rw [if_pos (by simp [he])]
   simp [key,he]
theorem ew_equal (s1 s2 : List Int) (hb : s1.length ≤ 100) : Tryz.m63 s1 s2 = some ((decide (s1 = s2),()),()) := by
 rw [Tryz.m63_eq]
 by_cases h : s1.length = s2.length
 ·rw [if_neg (by simp [h]),show (0 : Int) = I 0 by simp,ew_loop s1 s2 h hb s1.length 0 (by omega)]
  simp
 ·have hne : s1 ≠ s2 := fun e => h (by rw [e])
  have h' : ¬ I s1.length = I s2.length := fun e => h (by exact Int.ofNat.inj e)
  rw [if_pos (by simpa using h')]
  simp [hne]
theorem ew_same (a b : Rsl) (hb : a.output.length ≤ 100) : Tryz.m34 a b = some ((decide (a.end_ = b.end_ ∧ a.code = b.code ∧ a.output = b.output),()),()) := by
 rw [Tryz.m34_eq]
 by_cases h1 : a.end_ = b.end_
 ·rw [if_pos (by simpa using h1)]
  by_cases h2 : a.code = b.code
  ·rw [if_pos (by simpa using h2),ew_equal _ _ hb]; simp [h1,h2]
  ·rw [if_neg (by simpa using h2)]; simp [h2]
 ·rw [if_neg (by simpa using h1)]; simp [h1]
def ewB (a b : Rsl) : Prop := a.output.length ≤ b.output.length ∧ a.output = b.output.take a.output.length
instance (a b : Rsl) : Decidable (ewB a b) := inferInstanceAs (Decidable (_ ∧ _))
theorem ew_begins (a b : Rsl) (hb : a.output.length ≤ 100) : Tryz.m37 a b = some ((decide (ewB a b),()),()) := by
 rw [Tryz.m37_eq]
 by_cases h1 : a.output.length ≤ b.output.length
 ·rw [if_pos (by simp; omega),if_pos (by simp; omega),show Int.toNat (0 : Int) = 0 from rfl,List.drop_zero,show (I a.output.length).toNat = a.output.length by simp,ew_equal _ _ hb]
  simp [ewB,h1]
 ·rw [if_neg (by simp; omega)]
  simp [ewB,h1]
theorem ew_rest (a b : Rsl) (ha : a.output.length ≤ 100) (hb : b.output.length ≤ 100) : ∀ n j,n + j = a.output.length → ∀ t,t = decide (a.output.length ≤ b.output.length ∧ a.output.take j = b.output.take j) → Tryz.m12_5 t (I j) a b = some ((true,()),()) := by
 have hfin : ∀ t,t = decide (ewB a b) → ∀ c : Bool,c = decide (a.end_ = b.end_ ∧ a.code = b.code ∧ a.output = b.output) →
   c = (t && decide (I a.output.length = I b.output.length) && decide (a.end_ = b.end_) && decide (a.code = b.code)) := by
  intro t ht c hc
  subst ht; subst hc
  by_cases h : a.output = b.output
  ·have : ewB a b := ⟨by rw [h]; exact Nat.le_refl _,by rw [h]; simp⟩
   simp [this,h]
  ·by_cases h2 : ewB a b
   ·have : ¬ a.output.length = b.output.length := fun e => h (by have := h2.2; rw [e,List.take_length] at this; exact this)
    have this' : ¬ I a.output.length = I b.output.length := fun e => this (by exact Int.ofNat.inj e)
    simp [h,h2,this']
   ·simp [h,h2]
 intro n
 induction n with
 | zero =>
  intro j hj t ht
  have ht' : t = decide (ewB a b) := by
   rw [ht]
   have : a.output.take j = a.output := List.take_of_length_le (by omega)
   rw [this,show j = a.output.length by omega]
   rfl
  rw [Tryz.m12_5_eq,if_neg (by simp; omega),ew_begins a b ha]
  simp only [Option.bind_some,← ht',beq_self_eq_true,if_true,ew_same a b ha]
  have hc := hfin t ht' _ rfl
  rw [hc]
  cases t <;> cases h1 : decide (I a.output.length = I b.output.length) <;> cases h2 : decide (a.end_ = b.end_) <;> cases h3 : decide (a.code = b.code) <;> rfl
 | succ n ih =>
  intro j hj t ht
  have j1 : j < a.output.length := by omega
  cases hh : t with
  | false =>
   rw [hh] at ht
   have ht' : false = decide (ewB a b) := by
    symm
    simp only [decide_eq_false_iff_not]
    intro hbg
    have hx : ¬ (a.output.length ≤ b.output.length ∧ a.output.take j = b.output.take j) := by simpa using ht.symm
    refine hx ⟨hbg.1,?_⟩
    have := congrArg (List.take j) hbg.2
    rw [List.take_take,Nat.min_eq_left (by omega)] at this
    exact this
   rw [Tryz.m12_5_eq,if_pos (by simp; omega),if_neg (by simp),ew_begins a b ha]
   simp only [Option.bind_some,← ht',beq_self_eq_true,if_true,ew_same a b ha]
   have hc := hfin false ht' _ rfl
   rw [hc]
   rfl
  | true =>
   rw [hh] at ht
   have hx : a.output.length ≤ b.output.length ∧ a.output.take j = b.output.take j := by simpa using ht.symm
   have j2 : j < b.output.length := by omega
   have g1 : a.output.getD (I j).toNat 0 = a.output[j] := by simp [List.getD_eq_getElem?_getD,j1]
   have g2 : b.output.getD (I j).toNat 0 = b.output[j] := by simp [List.getD_eq_getElem?_getD,j2]
   rw [Tryz.m12_5_eq,if_pos (by simp; omega),if_pos rfl,if_pos (by simp; omega),if_pos (by simp; omega),if_pos (ew_in (by show (0 : Int) ≤ (j : Int) + 1; omega) (by show (j : Int) + 1 ≤ 1000; omega)),g1,g2,show I j + 1 = I (j + 1) from rfl]
   refine ih (j + 1) (by omega) _ ?_
   have key : (a.output.take (j + 1) = b.output.take (j + 1)) ↔ a.output[j] = b.output[j] := by
    rw [List.take_succ_eq_append_getElem j1,List.take_succ_eq_append_getElem j2,hx.2]
    exact ⟨fun h => (List.cons.inj (List.append_cancel_left h)).1,fun h => by rw [h]⟩
   simp [hx.1,key]
theorem words_law (a b : Rsl) : Tryz.m12 a b = some ((true,()),()) := by
 rw [Tryz.m12_eq]
 by_cases h1 : (100 : Int) < I a.output.length
 ·rw [if_pos (by simpa using h1)]
 rw [if_neg (by simpa using h1)]
 by_cases h2 : (100 : Int) < I b.output.length
 ·rw [if_pos (by simpa using h2)]
 rw [if_neg (by simpa using h2),show (0 : Int) = I 0 by simp]
 exact ew_rest a b (by have h1 : ¬ (100 : Int) < (a.output.length : Int) := h1; omega) (by have h2 : ¬ (100 : Int) < (b.output.length : Int) := h2; omega) a.output.length 0 (by omega) _ (by simp)
end Go.Proofs
