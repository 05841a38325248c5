/-
  A source's tokens, plain: white space and comments, one token, all tokens; as functions on lists of bytes.
-/
import Derived.Test.YtcifaokahhbflaaDoorDat
namespace Go.Sc
open Go.En

def words : List (List UInt8) := [[98, 114, 101, 97, 107], [99, 97, 115, 101], [99, 104, 97, 114], [99, 111, 110, 116, 105, 110, 117, 101], [100, 101, 102, 97, 117, 108, 116], [100, 111], [101, 108, 115, 101], [102, 111, 114], [103, 101, 116, 99], [103, 111, 116, 111], [105, 102], [105, 110, 116], [112, 117, 116, 99], [114, 101, 116, 117, 114, 110], [115, 105, 122, 101, 111, 102], [115, 116, 114, 117, 99, 116], [115, 119, 105, 116, 99, 104], [117, 110, 115, 105, 103, 110, 101, 100], [118, 111, 105, 100], [119, 104, 105, 108, 101]]
def signs : List (List UInt8) := [[60, 60, 61], [62, 62, 61], [43, 43], [45, 45], [45, 62], [43, 61], [45, 61], [42, 61], [47, 61], [37, 61], [38, 61], [124, 61], [94, 61], [60, 60], [62, 62], [60, 61], [62, 61], [61, 61], [33, 61], [38, 38], [124, 124], [43], [45], [42], [47], [37], [38], [124], [94], [126], [33], [60], [62], [61], [63], [58], [59], [44], [46], [40], [41], [91], [93], [123], [125]]
def ws (c : UInt8) : Bool := c == 32 || c == 9 || c == 10 || c == 13
def letB (c : UInt8) : Bool := decide (97 ≤ c.toNat ∧ c.toNat ≤ 122) || decide (65 ≤ c.toNat ∧ c.toNat ≤ 90) || decide (c.toNat = 95)
def digB (c : UInt8) : Bool := decide (48 ≤ c.toNat ∧ c.toNat ≤ 57)
def aln (c : UInt8) : Bool := letB c || digB c
/-- What is left from the next byte 10 on. -/
def eol : List UInt8 → List UInt8
  | [] => []
  | c :: r => if c = 10 then c :: r else eol r
/-- What is left behind the end of a comment. -/
def eoc : List UInt8 → Option (List UInt8)
  | [] => none
  | c :: r => if c = 42 ∧ r.head? = some 47 then some r.tail else eoc r
theorem eol_le : ∀ s, (eol s).length ≤ s.length
  | [] => Nat.le_refl _
  | c :: r => by
    unfold eol
    split
    · exact Nat.le_refl _
    · exact Nat.le_trans (eol_le r) (Nat.le_succ _)
theorem eoc_le : ∀ s x, eoc s = some x → x.length ≤ s.length
  | [], x, h => by simp [eoc] at h
  | c :: r, x, h => by
    unfold eoc at h
    split at h
    · simp only [Option.some.injEq] at h; subst h; simp only [List.length_tail, List.length_cons]; omega
    · exact Nat.le_trans (eoc_le r x h) (Nat.le_succ _)
/-- What is left behind white space and comments; whether it is fine. -/
def skipL (s : List UInt8) : List UInt8 × Bool :=
  match s with
  | [] => ([], true)
  | c :: r =>
    if ws c = true then skipL r
    else if c = 47 ∧ r.head? = some 47 then skipL (eol r)
    else if c = 47 ∧ r.head? = some 42 then
      match h : eoc r.tail with
      | none => (c :: r, false)
      | some x => skipL x
    else (c :: r, true)
  termination_by s.length
  decreasing_by
    · simp
    · have := eol_le r; simp only [List.length_cons]; omega
    · have := eoc_le _ _ h; simp only [List.length_cons, List.length_tail] at this ⊢; omega
def hexB (c : UInt8) : Nat := if digB c = true then c.toNat - 48 else if 97 ≤ c.toNat ∧ c.toNat ≤ 102 then c.toNat - 87 else if 65 ≤ c.toNat ∧ c.toNat ≤ 70 then c.toNat - 55 else 99
def digits (base : Nat) : Nat → List UInt8 → Option Nat
  | n, [] => some n
  | n, c :: r => if base ≤ hexB c then none else if 4294967295 < n * base + hexB c then none else digits base (n * base + hexB c) r
def unU (s : List UInt8) : List UInt8 := if s.getLast? = some 117 ∨ s.getLast? = some 85 then s.dropLast else s
def baseL (s : List UInt8) : Nat × List UInt8 := if ([48, 120] : List UInt8).isPrefixOf s = true ∨ ([48, 88] : List UInt8).isPrefixOf s = true then (16, s.drop 2) else (10, s)
/-- A number's value. -/
def valL (s : List UInt8) : Option Nat := if (baseL (unU s)).2 = [] then none else digits (baseL (unU s)).1 0 (baseL (unU s)).2
def escB (c : UInt8) : Option Nat := if c = 110 then some 10 else if c = 116 then some 9 else if c = 48 then some 0 else if c = 92 then some 92 else if c = 39 then some 39 else none
/-- A byte between quotes: its value, how long it is. -/
def charL : List UInt8 → Option (Nat × Nat)
  | _ :: a :: b :: r => if a = 92 then (if r.head? = some 39 then (escB b).map fun v => (v, 4) else none) else if b = 39 ∧ a ≠ 39 ∧ a ≠ 10 then some (a.toNat, 3) else none
  | _ => none
def signL (s : List UInt8) : Option (List UInt8) := signs.find? fun x => x.isPrefixOf s
inductive Res where
  | err (e : Int)
  | tok (k : Int) (t : List UInt8) (n : Nat)
/-- The token that a text begins with. -/
def tokL (s : List UInt8) : Res := match s with
  | [] => .err 2
  | c :: r =>
    if letB c = true then .tok (if (c :: r).takeWhile aln ∈ words then 2 else 1) ((c :: r).takeWhile aln) 0
    else if digB c = true then match valL ((c :: r).takeWhile aln) with
      | none => .err 3
      | some v => .tok 3 ((c :: r).takeWhile aln) v
    else if c = 39 then match charL (c :: r) with
      | none => .err 2
      | some (v, k) => .tok 3 ((c :: r).take k) v
    else match signL (c :: r) with
      | none => .err 2
      | some x => .tok 4 x 0
theorem skipL_le (s : List UInt8) : (skipL s).1.length ≤ s.length := by
  induction s using skipL.induct with
  | case1 => simp [skipL]
  | case2 c r h ih => rw [skipL, if_pos h]; exact Nat.le_trans ih (Nat.le_succ _)
  | case3 c r h h2 ih => rw [skipL, if_neg h, if_pos h2]; exact Nat.le_trans ih (Nat.le_trans (eol_le r) (Nat.le_succ _))
  | case4 c r h h2 h3 h4 =>
    rw [skipL, if_neg h, if_neg h2, if_pos h3]
    split
    · exact Nat.le_refl _
    · rename_i x hx; rw [h4] at hx; cases hx
  | case5 c r h h2 h3 x h4 ih =>
    rw [skipL, if_neg h, if_neg h2, if_pos h3]
    split
    · exact Nat.le_refl _
    · rename_i y hy
      rw [h4] at hy; cases hy
      have := eoc_le _ _ h4
      simp only [List.length_cons, List.length_tail] at this ⊢
      omega
  | case6 c r h h2 h3 => rw [skipL, if_neg h, if_neg h2, if_neg h3]; exact Nat.le_refl _
/-- Where something is wrong, and how; or all tokens. -/
inductive Scn where
  | err (at_ : Nat) (e : Int)
  | ok (l : List Dop.Tok)
def Scn.cons (t : Dop.Tok) : Scn → Scn
  | .err a e => .err a e
  | .ok l => .ok (t :: l)
def scanL (at_ cnt : Nat) (s : List UInt8) : Scn :=
  if (skipL s).2 = false then .err (at_ + (s.length - (skipL s).1.length)) 2
  else match h : (skipL s).1 with
    | [] => .ok [⟨0, [], 0, ((at_ + s.length : Nat) : Int)⟩]
    | c :: r => match tokL (c :: r) with
      | .err e => .err (at_ + (s.length - (c :: r).length)) e
      | .tok k t n => if 8192 ≤ cnt then .err (at_ + (s.length - (c :: r).length)) 4
        else (scanL (at_ + (s.length - (c :: r).length) + t.length) (cnt + 1) (r.drop (t.length - 1))).cons ⟨k, t, (n : Int), ((at_ + (s.length - (c :: r).length) : Nat) : Int)⟩
  termination_by s.length
  decreasing_by
    have h1 := skipL_le s
    rw [h] at h1
    simp only [List.length_cons, List.length_drop] at h1 ⊢
    omega
end Go.Sc
