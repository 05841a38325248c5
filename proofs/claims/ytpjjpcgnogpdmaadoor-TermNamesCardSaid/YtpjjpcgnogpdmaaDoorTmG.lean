/-
  Layer 17, plain: names.
-/
import Derived.Test.YtpjjpcgnogpdmaaDoorTmF
namespace Go.Proofs.Law.Sy
open Go Go.En Go.Proofs Go.Proofs.Law

def V (n : List UInt8) : En.Dop.Nod := Dop.Nod.mk 1 0 0 n [] []
def C (n : List UInt8) : En.Dop.Nod := Dop.Nod.mk 2 0 0 n [] []
def K (n : Int) : En.Dop.Nod := Dop.Nod.mk 0 0 n [] [] []
def putR (x : En.Dop.Nod) (L : List En.Dop.Nod) : Nat × List En.Dop.Nod := match findK 0 (keyOf x) L with
  | some i => (i, L)
  | none => (L.length, L ++ [x])
def rs (p : Nat × List En.Dop.Nod) : (Int × Unit) × ((List En.Dop.Nod × (List (List UInt8 × Int) × Unit)) × Unit) := ((I p.1, ()), ((p.2, (byF 0 p.2, ())), ()))
theorem put_r (x : En.Dop.Nod) (h : Ok x) (L : List En.Dop.Nod) (hL : L.length < 1000) : Tryd.m12 x L (byF 0 L) = some (rs (putR x L)) := by
  rw [put_v x h L hL]
  unfold putR
  split <;> rename_i h <;> rw [h] <;> rfl
theorem okV {n : List UInt8} (h : n.length ≤ 20) : Ok (V n) := ⟨fun e => (by cases e), by unfold I64; show _ ≤ (0 : Int) ∧ (0 : Int) ≤ _; omega, h, Nat.zero_le _, Nat.zero_le _, fun a ha => (by cases ha), fun a ha => (by cases ha)⟩
theorem okC {n : List UInt8} (h : n.length ≤ 20) : Ok (C n) := ⟨fun e => (by cases e), by unfold I64; show _ ≤ (0 : Int) ∧ (0 : Int) ≤ _; omega, h, Nat.zero_le _, Nat.zero_le _, fun a ha => (by cases ha), fun a ha => (by cases ha)⟩
theorem okK (n : Int) : Ok (K (wr n)) := ⟨fun e => (by cases e), by have := wr_range n; unfold I64; show _ ≤ wr n ∧ wr n ≤ _; omega, Nat.zero_le _, Nat.zero_le _, Nat.zero_le _, fun a ha => (by cases ha), fun a ha => (by cases ha)⟩
theorem kVV {a b : List UInt8} : keyOf (V a) = keyOf (V b) ↔ a = b := by
  rw [key_iff]; show (32 :: a = 32 :: b) ∧ ([] : List Int) = [] ↔ _; simp
theorem kCC {a b : List UInt8} : keyOf (C a) = keyOf (C b) ↔ a = b := by
  rw [key_iff]; show (40 :: a = 40 :: b) ∧ ([] : List Int) = [] ↔ _; simp
theorem kVC {a b : List UInt8} : ¬ keyOf (C a) = keyOf (V b) := by
  rw [key_iff]; show ¬ ((40 :: a = 32 :: b) ∧ ([] : List Int) = []); simp
theorem kVK {a : Int} {b : List UInt8} : ¬ keyOf (K a) = keyOf (V b) := by
  rw [key_iff]; show ¬ ((35 :: Lib.itoa a = 32 :: b) ∧ ([] : List Int) = []); simp
theorem kCK {a : Int} {b : List UInt8} : ¬ keyOf (C b) = keyOf (K a) := by
  rw [key_iff]; show ¬ ((40 :: b = 35 :: Lib.itoa a) ∧ ([] : List Int) = []); simp
theorem m6_r {n : List UInt8} (h : n.length ≤ 20) (L : List En.Dop.Nod) (hL : L.length < 1000) : Tryd.m6 n L (byF 0 L) = some (rs (putR (V n) L)) := by
  have k := put_r (V n) (okV h) L hL
  unfold V at k
  rw [Tryd.m6_eq, k]; rfl
theorem m8_r (n : Int) (L : List En.Dop.Nod) (hL : L.length < 1000) : Tryd.m8 n L (byF 0 L) = some (rs (putR (K (wr n)) L)) := by
  have k := put_r (K (wr n)) (okK n) L hL
  rw [Tryd.m8_eq, m21_v, Option.bind_some]
  unfold K at k
  rw [k]; rfl
theorem m11_r {n : List UInt8} (h : n.length ≤ 20) (L : List En.Dop.Nod) (hL : L.length < 1000) : Tryd.m11 n [] L (byF 0 L) = some (rs (putR (C n) L)) := by
  have k := put_r (C n) (okC h) L hL
  unfold C at k
  rw [Tryd.m11_eq, m15_v _ _ _ (Nat.zero_le _) (fun a ha => by cases ha), Option.bind_some]
  simp only [Bool.not_true, Bool.false_eq_true, if_false, List.length_nil, Nat.zero_mul, Nat.zero_le, decide_true, if_true]
  rw [k]; rfl
theorem TermNames_ok (o t1 : List UInt8) (t2 : Int) : Tryd.m4 o t1 t2 = some ((true, ()), ()) := by
  rw [Tryd.m4_eq]
  by_cases h1 : (20 : Int) < I o.length
  · simp only [h1, decide_true, if_true, awake_ok, Option.bind_some]
  by_cases h2 : (20 : Int) < I t1.length
  · simp only [h1, h2, decide_true, decide_false, Bool.false_eq_true, if_false, if_true, awake_ok, Option.bind_some]
  have h1' : o.length ≤ 20 := by simp only [I_eq] at h1; omega
  have h2' : t1.length ≤ 20 := by simp only [I_eq] at h2; omega
  simp only [h1, h2, decide_false, Bool.false_eq_true, if_false]
  have a1 := m6_r h1' [] (by decide)
  rw [show byF 0 [] = [] from rfl, show putR (V o) [] = (0, [V o]) from rfl] at a1
  rw [a1, Option.bind_some]
  have a2 := m6_r h2' [V o] (show 1 < 1000 by omega)
  by_cases he : o = t1
  · subst he
    have p2 : putR (V o) [V o] = (0, [V o]) := by unfold putR; simp only [findK, if_true]
    rw [p2] at a2
    have a3 := m8_r t2 [V o] (show 1 < 1000 by omega)
    have p3 : putR (K (wr t2)) [V o] = (1, [V o, K (wr t2)]) := by unfold putR; simp only [findK, kVK, if_false]; rfl
    rw [p3] at a3
    have a4 := m11_r h1' [V o, K (wr t2)] (show 2 < 1000 by omega)
    have p4 : putR (C o) [V o, K (wr t2)] = (2, [V o, K (wr t2), C o]) := by unfold putR; simp only [findK, kVC, kCK, if_false]; rfl
    rw [p4] at a4
    have a5 := m11_r h1' [V o, K (wr t2), C o] (show 3 < 1000 by omega)
    have p5 : putR (C o) [V o, K (wr t2), C o] = (2, [V o, K (wr t2), C o]) := by unfold putR; simp only [findK, kVC, kCK, if_false, if_true]
    rw [p5] at a5
    simp only [rs] at a2 a3 a4 a5 ⊢
    simp only [a2, a3, a4, a5, Option.bind_some, decide_true, if_true, I_iff, awake_ok]
    rfl
  · have he' : ¬ t1 = o := fun e => he e.symm
    have p2 : putR (V t1) [V o] = (1, [V o, V t1]) := by unfold putR; simp only [findK, kVV, he', if_false]; rfl
    rw [p2] at a2
    have a3 := m8_r t2 [V o, V t1] (show 2 < 1000 by omega)
    have p3 : putR (K (wr t2)) [V o, V t1] = (2, [V o, V t1, K (wr t2)]) := by unfold putR; simp only [findK, kVK, if_false]; rfl
    rw [p3] at a3
    have a4 := m11_r h1' [V o, V t1, K (wr t2)] (show 3 < 1000 by omega)
    have p4 : putR (C o) [V o, V t1, K (wr t2)] = (3, [V o, V t1, K (wr t2), C o]) := by unfold putR; simp only [findK, kVC, kCK, if_false]; rfl
    rw [p4] at a4
    have a5 := m11_r h2' [V o, V t1, K (wr t2), C o] (show 4 < 1000 by omega)
    have p5 : putR (C t1) [V o, V t1, K (wr t2), C o] = (4, [V o, V t1, K (wr t2), C o, C t1]) := by unfold putR; simp only [findK, kVC, kCK, kCC, he', if_false]; rfl
    rw [p5] at a5
    have a6 := m11_r h2' [V o, V t1, K (wr t2), C o, C t1] (show 5 < 1000 by omega)
    have p6 : putR (C t1) [V o, V t1, K (wr t2), C o, C t1] = (4, [V o, V t1, K (wr t2), C o, C t1]) := by unfold putR; simp only [findK, kVC, kCK, kCC, he', if_false, if_true]
    rw [p6] at a6
    have a7 := m11_r h1' [V o, V t1, K (wr t2), C o, C t1] (show 5 < 1000 by omega)
    have p7 : putR (C o) [V o, V t1, K (wr t2), C o, C t1] = (3, [V o, V t1, K (wr t2), C o, C t1]) := by unfold putR; simp only [findK, kVC, kCK, if_false, if_true]
    rw [p7] at a7
    simp only [rs] at a2 a3 a4 a5 a6 a7 ⊢
    simp only [a2, a3, a4, a5, a6, a7, Option.bind_some, he, decide_true, decide_false, if_true, I_iff, awake_ok]
    rfl
end Go.Proofs.Law.Sy
