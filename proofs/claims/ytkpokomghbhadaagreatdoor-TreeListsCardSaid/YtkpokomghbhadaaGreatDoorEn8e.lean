/-
 The evaluation is sound: all operations in one theorem.
-/
import Derived.Test.YtkpokomghbhadaaGreatDoorEn8d
namespace Go.En
open Go.RowKit
section
variable {S : Sig} {P : Program} {w0 : World} {F D0 D : Nat → Prop} {s : St S} {N : Nat → Prop} {β : Nat → Nm} {a : Act} {w : World}
theorem orR_sound {o : Oper} {r q : R S} (h : R.Sound P w0 F D0 D s N β a w o r) (k : R.Sound P w0 F D0 D s N β a w o q) : R.Sound P w0 F D0 D s N β a w o (orR r q) := by
 unfold orR; split
 ·exact k
 ·exact h
theorem sound_ev (hg : G w0 F D0 D s N β a w) {o : Oper} {x : Operand} (h : (execOp a.eval o).run P w = .ok (.value (a.eval x)) w) : R.Sound P w0 F D0 D s N β a w o (match ev s x with | some v => .val none v | none => .stop) := by
 split
 ·rename_i v hv
  exact sound_val (ev_on hg hv) fun _ => by rw [h,ev_den hg hv]
 ·trivial
theorem evAll_den (hg : G w0 F D0 D s N β a w) : ∀ {l : List Operand} {vs : List SV},evAll s l = some vs → l.map a.eval = denL β vs ∧ onL N vs
 | [],vs,h => by simp only [evAll,Option.some.injEq] at h; subst h; simp [denL,onL]
 | x :: r,vs,h => by
  simp only [evAll] at h
  split at h
  case h_2 => cases h
  rename_i v h1
  split at h
  case h_2 => cases h
  rename_i l h2
  simp only [Option.some.injEq] at h; subst h
  obtain ⟨h3,h4⟩ := evAll_den hg h2
  exact ⟨by simp [denL,ev_den hg h1,h3],⟨ev_on hg h1,h4⟩⟩
theorem pickV_den {c : Bool} {x y z : SV} (h : pickV c x y = some z) (β : Nat → Nm) : z.den β = (if c = true then x.den β else y.den β) ∧ ∀ N : Nat → Prop,z.on N := by
 unfold pickV at h
 split at h
 ·rename_i k n k' m
  split at h
  ·rename_i hk
   have := (sameK_iff _ _).1 hk; subst this
   cases h
   exact ⟨by cases c <;> simp [SV.den],fun _ => trivial⟩
  ·cases h
 ·cases h; exact ⟨by cases c <;> simp [SV.den],fun _ => trivial⟩
 ·cases h; exact ⟨by cases c <;> simp [SV.den],fun _ => trivial⟩
 ·cases h; exact ⟨by cases c <;> simp [SV.den],fun _ => trivial⟩
 ·cases h; exact ⟨by cases c <;> simp [SV.den],fun _ => trivial⟩
 ·cases h
theorem evalOp_sound {tb : List (Nat × TI)} (htb : TabOk S P tb) (hg : G w0 F D0 D s N β a w) (o : Oper) : R.Sound P w0 F D0 D s N β a w o (evalOp tb s o.op) := by
 generalize ho : o.op = op
 unfold evalOp
 split
 case h_1 => exact sound_ev hg (by simp [execOp,ho])
 case h_2 => exact sound_ev hg (by simp [execOp,ho])
 case h_3 c x y =>
  split
  ·rename_i hc
   exact sound_ev hg (by simp [execOp,ho,ev_den hg hc,SV.den,asBool])
  ·rename_i hc
   exact sound_ev hg (by simp [execOp,ho,ev_den hg hc,SV.den,asBool])
  ·rename_i b hc
   split
   ·rename_i u v hu hv
    split
    ·rename_i z hz
     obtain ⟨h1,h2⟩ := pickV_den hz β
     refine sound_val (h2 _) fun _ => ?_
     rw [h1,← ev_den hg hu,← ev_den hg hv]
     cases b <;> simp [execOp,ho,ev_den hg hc,SV.den,asBool]
    ·trivial
   ·trivial
  ·trivial
 case h_4 T =>
  split
  ·rename_i t ht
   have hok := htb.get ht
   refine ⟨by simpa [Own.on] using hok.zn N,.cells (denL β t.zc).toArray T,0,0,fun n β' hβ hn => ⟨?_,?_⟩⟩
   ·have hz : t.z.cells = (denL β t.zc).toArray := by rw [← hok.zc β]
    simp [execOp,ho,Instr.alloc,hok.zero,newVar,newRow,hz,resOf,SV.den,hn,Nm.blk]
   ·refine ⟨w.heap.size,rfl,?_⟩
    rw [heap_alloc_new,← hok.zc β,← hok.zc β']
  ·trivial
 case h_5 T x =>
  split
  ·rename_i cs hcs
   obtain ⟨v,hv1,hv2⟩ := Option.bind_eq_some_iff.1 hcs
   obtain ⟨h1,h2⟩ := cells_den hv2 β
   have hnb : onL N cs := h2 _ (ev_on hg hv1)
   refine ⟨by simpa [Own.on] using hnb,.cells (denL β cs).toArray T,0,0,fun n β' hβ hn => ⟨?_,?_⟩⟩
   ·have hz : (v.den β).cells = (denL β cs).toArray := by rw [← h1]
    simp [execOp,ho,Instr.box,newVar,newRow,ev_den hg hv1,hz,resOf,SV.den,hn,Nm.blk]
   ·refine ⟨w.heap.size,rfl,?_⟩
    rw [heap_alloc_new,denL_congr hβ cs hnb]
  ·trivial
 case h_6 T x => exact evLoad_sound htb hg ho
 case h_7 T x y => exact evStore_sound htb hg ho
 case h_8 x => exact evNil_sound hg ho
 case h_9 bop T x y U =>
  split
  ·rename_i p q hp hq
   split
   ·rename_i hT
    split
    ·rename_i p' q' hp' hq'
     exact binB_sound ho (by rw [ev_den hg hp,asB_den hp']) (by rw [ev_den hg hq,asB_den hq']) (tdOf_ok htb hT)
    ·trivial
   ·exact binA_sound htb ho (ev_den hg hp) (ev_den hg hq)
   ·split
    ·exact binW_sound ho (ev_den hg hp) (ev_den hg hq)
    ·exact bin_sound ho (ev_den hg hp) (ev_den hg hq)
  ·trivial
 case h_10 uop T x =>
  split
  ·rename_i p hp; exact un_sound ho (ev_den hg hp)
  ·trivial
 case h_11 U T x =>
  split
  ·rename_i ts t p h1 h2 hp; exact evConv_sound htb hg ho (ev_den hg hp) h1 h2
  ·trivial
 case h_12 f cap =>
  split
  ·rename_i l hf hl
   obtain ⟨h1,h2⟩ := evAll_den hg hl
   exact sound_val (by simpa [SV.on] using h2) fun _ => by simp [execOp,ho,Instr.makeFunc,h1,SV.den,fnV_plain hf]
  ·trivial
 case h_13 f fs hne =>
  split
  ·rename_i l hl
   obtain ⟨h1,h2⟩ := evAll_den hg hl
   exact sound_val (by simpa [SV.on] using h2) fun _ => by simp [execOp,ho,Instr.makeFunc,h1,SV.den,fnV_bound (show Nat.ble 1000000 (f + 1000000) = true from Nat.ble_eq_true_of_le (Nat.le_add_left _ _))]
  ·trivial
 case h_14 T x j => exact evFieldAddr_sound htb hg ho
 case h_15 T x j => exact evField_sound htb hg ho
 case h_16 T x i => exact evIndexAddr_sound htb hg ho
 case h_17 T x i =>
  split
  ·rename_i hT; exact evIndex_sound htb hg ho hT
  ·rename_i hT; exact evIndexA_sound htb hg ho hT
  ·trivial
 case h_18 T x lo hi => exact evSlice_sound htb hg ho
 case h_19 x j => exact evExtract_sound hg ho
 case h_20 T parts => exact evBuild_sound htb hg ho
 case h_21 T n parts => exact evBuildSlice_sound htb hg ho
 case h_22 T l c => exact orR_sound (makeX_sound htb hg ho) (makeD_sound htb hg ho)
 case h_23 T => exact makeM_sound ho
 case h_24 T m k v => exact updM_sound htb hg (.inl ho)
 case h_25 T m k v => exact updM_sound htb hg (.inr ho)
 case h_26 T m k ok => exact lookM_sound htb hg ho
 case h_27 x T => exact evLen_sound htb hg ho
 case h_28 x y ts => exact evMinMax_sound hg false (by simpa using ho)
 case h_29 x y ts => exact evMinMax_sound hg true (by simpa using ho)
 case h_30 x y T T' =>
  split
  ·rename_i hT
   have hT := Nat.eq_of_beq_eq_true hT; subst hT
   exact orR_sound (appX_sound htb hg ho) (appD_sound htb hg ho)
  ·split
   ·rename_i hT; exact appS_sound htb hg (tdOf_ok htb hT) ho
   ·trivial
 case h_31 x y T T' => exact copyX_sound htb hg ho
 case h_32 => trivial
end
end Go.En
