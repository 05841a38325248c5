/- A source's tokens, plain: white space and comments, one token, all tokens; as functions on lists of bytes. -/
import Derived.Test.YtkpokomghbhadaaGreatDoorDat
set_option linter.unusedSimpArgs false
namespace Go.Sc
open Go.En
def words : List (List UInt8) := [[98,114,101,97,107],[99,97,115,101],[99,104,97,114],[99,111,110,116,105,110,117,101],[100,101,102,97,117,108,116],[100,111],[101,108,115,101],[102,111,114],[103,101,116,99],[103,111,116,111],[105,102],[105,110,116],[112,117,116,99],[114,101,116,117,114,110],[115,105,122,101,111,102],[115,116,114,117,99,116],[115,119,105,116,99,104],[117,110,115,105,103,110,101,100],[118,111,105,100],[119,104,105,108,101]]
def signs : List (List UInt8) := [[60,60,61],[62,62,61],[43,43],[45,45],[45,62],[43,61],[45,61],[42,61],[47,61],[37,61],[38,61],[124,61],[94,61],[60,60],[62,62],[60,61],[62,61],[61,61],[33,61],[38,38],[124,124],[43],[45],[42],[47],[37],[38],[124],[94],[126],[33],[60],[62],[61],[63],[58],[59],[44],[46],[40],[41],[91],[93],[123],[125]]
def ws (c : UInt8) : Bool := c == 32 || c == 9 || c == 10 || c == 13
def letB (c : UInt8) : Bool := decide (97 ≤ c.toNat ∧ c.toNat ≤ 122) || decide (65 ≤ c.toNat ∧ c.toNat ≤ 90) || decide (c.toNat = 95)
def digB (c : UInt8) : Bool := decide (48 ≤ c.toNat ∧ c.toNat ≤ 57)
def aln (c : UInt8) : Bool := letB c || digB c
def eol : List UInt8 → List UInt8
 | [] => []
 | c :: r => if c = 10 then c :: r else eol r
def eoc : List UInt8 → Option (List UInt8)
 | [] => none
 | c :: r => if c = 42 ∧ r.head? = some 47 then some r.tail else eoc r
theorem eol_le : ∀ s,(eol s).length ≤ s.length
 | [] => Nat.le_refl _
 | c :: r => by
  unfold eol
  split
  ·exact Nat.le_refl _
  ·exact Nat.le_trans (eol_le r) (Nat.le_succ _)
theorem eoc_le : ∀ s x,eoc s = some x → x.length ≤ s.length
 | [],x,h => by simp [eoc] at h
 | c :: r,x,h => by
  unfold eoc at h
  split at h
  ·simp only [Option.some.injEq] at h; subst h; simp only [List.length_tail,List.length_cons]; omega
  ·exact Nat.le_trans (eoc_le r x h) (Nat.le_succ _)
def skipL (s : List UInt8) : List UInt8 × Bool :=
 match s with
 | [] => ([],true)
 | c :: r =>
  if ws c = true then skipL r
  else if c = 47 ∧ r.head? = some 47 then skipL (eol r)
  else if c = 47 ∧ r.head? = some 42 then
   match h : eoc r.tail with
   | none => (c :: r,false)
   | some x => skipL x
  else (c :: r,true)
 termination_by s.length
 decreasing_by
  ·simp
  ·have := eol_le r; simp only [List.length_cons]; omega
  ·have := eoc_le _ _ h; simp only [List.length_cons,List.length_tail] at this ⊢; omega
def hexB (c : UInt8) : Nat := if digB c = true then c.toNat - 48 else if 97 ≤ c.toNat ∧ c.toNat ≤ 102 then c.toNat - 87 else if 65 ≤ c.toNat ∧ c.toNat ≤ 70 then c.toNat - 55 else 99
def digits (base : Nat) : Nat → List UInt8 → Option Nat
 | n,[] => some n
 | n,c :: r => if base ≤ hexB c then none else if 4294967295 < n * base + hexB c then none else digits base (n * base + hexB c) r
def unU (s : List UInt8) : List UInt8 := if s.getLast? = some 117 ∨ s.getLast? = some 85 then s.dropLast else s
def baseL (s : List UInt8) : Nat × List UInt8 := if ([48,120] : List UInt8).isPrefixOf s = true ∨ ([48,88] : List UInt8).isPrefixOf s = true then (16,s.drop 2) else (10,s)
def valL (s : List UInt8) : Option Nat := if (baseL (unU s)).2 = [] then none else digits (baseL (unU s)).1 0 (baseL (unU s)).2
def escB (c : UInt8) : Option Nat := if c = 110 then some 10 else if c = 116 then some 9 else if c = 48 then some 0 else if c = 92 then some 92 else if c = 39 then some 39 else none
def charL : List UInt8 → Option (Nat × Nat)
 | _ :: a :: b :: r => if a = 92 then (if r.head? = some 39 then (escB b).map fun v => (v,4) else none) else if b = 39 ∧ a ≠ 39 ∧ a ≠ 10 then some (a.toNat,3) else none
 | _ => none
def signL (s : List UInt8) : Option (List UInt8) := signs.find? fun x => x.isPrefixOf s
inductive Res where
 | err (e : Int)
 | tok (k : Int) (t : List UInt8) (n : Nat)
def tokL (s : List UInt8) : Res := match s with
 | [] => .err 2
 | c :: r =>
  if letB c = true then .tok (if (c :: r).takeWhile aln ∈ words then 2 else 1) ((c :: r).takeWhile aln) 0
  else if digB c = true then match valL ((c :: r).takeWhile aln) with
   | none => .err 3
   | some v => .tok 3 ((c :: r).takeWhile aln) v
  else if c = 39 then match charL (c :: r) with
   | none => .err 2
   | some (v,k) => .tok 3 ((c :: r).take k) v
  else match signL (c :: r) with
   | none => .err 2
   | some x => .tok 4 x 0
theorem skipL_le (s : List UInt8) : (skipL s).1.length ≤ s.length := by
 induction s using skipL.induct with
 | case1 => simp [skipL]
 | case2 c r h ih => rw [skipL,if_pos h]; exact Nat.le_trans ih (Nat.le_succ _)
 | case3 c r h h2 ih => rw [skipL,if_neg h,if_pos h2]; exact Nat.le_trans ih (Nat.le_trans (eol_le r) (Nat.le_succ _))
 | case4 c r h h2 h3 h4 =>
  rw [skipL,if_neg h,if_neg h2,if_pos h3]
  split
  ·exact Nat.le_refl _
  ·rename_i x hx; rw [h4] at hx; cases hx
 | case5 c r h h2 h3 x h4 ih =>
  rw [skipL,if_neg h,if_neg h2,if_pos h3]
  split
  ·exact Nat.le_refl _
  ·rename_i y hy
   rw [h4] at hy; cases hy
   have := eoc_le _ _ h4
   simp only [List.length_cons,List.length_tail] at this ⊢
   omega
 | case6 c r h h2 h3 => rw [skipL,if_neg h,if_neg h2,if_neg h3]; exact Nat.le_refl _
inductive Scn where
 | err (at_ : Nat) (e : Int)
 | ok (l : List Dop.Tok)
def Scn.cons (t : Dop.Tok) : Scn → Scn
 | .err a e => .err a e
 | .ok l => .ok (t :: l)
def scanL (at_ cnt : Nat) (s : List UInt8) : Scn :=
 if (skipL s).2 = false then .err (at_ + (s.length - (skipL s).1.length)) 2
 else match h : (skipL s).1 with
  | [] => .ok [⟨0,[],0,((at_ + s.length : Nat) : Int)⟩]
  | c :: r => match tokL (c :: r) with
   | .err e => .err (at_ + (s.length - (c :: r).length)) e
   | .tok k t n => if 8192 ≤ cnt then .err (at_ + (s.length - (c :: r).length)) 4
    else (scanL (at_ + (s.length - (c :: r).length) + t.length) (cnt + 1) (r.drop (t.length - 1))).cons ⟨k,t,(n : Int),((at_ + (s.length - (c :: r).length) : Nat) : Int)⟩
 termination_by s.length
 decreasing_by
  have h1 := skipL_le s
  rw [h] at h1
  simp only [List.length_cons,List.length_drop] at h1 ⊢
  omega
end Go.Sc
/- What is so of white space, of one token, and of all tokens. -/
namespace Go.Sc
open Go.En
theorem eol_suf : ∀ s,∃ p,s = p ++ eol s ∧ (10 : UInt8) ∉ p
 | [] => ⟨[],rfl,by simp⟩
 | c :: r => by
  unfold eol
  split
  ·exact ⟨[],rfl,by simp⟩
  ·rename_i h
   obtain ⟨p,h1,h2⟩ := eol_suf r
   exact ⟨c :: p,by rw [List.cons_append,← h1],by simp only [List.mem_cons,not_or]; exact ⟨fun e => h e.symm,h2⟩⟩
theorem eoc_suf : ∀ s x,eoc s = some x → ∃ p,s = p ++ x
 | [],x,h => by simp [eoc] at h
 | c :: r,x,h => by
  unfold eoc at h
  split at h
  ·simp only [Option.some.injEq] at h; subst h
   cases r with
   | nil => exact ⟨[c],rfl⟩
   | cons b r => exact ⟨[c,b],rfl⟩
  ·obtain ⟨p,hp⟩ := eoc_suf r x h
   exact ⟨c :: p,by rw [List.cons_append,← hp]⟩
theorem skip_nil : skipL [] = ([],true) := by rw [skipL]
theorem skip_ws {c : UInt8} (r : List UInt8) (h : ws c = true) : skipL (c :: r) = skipL r := by rw [skipL,if_pos h]
theorem skip_line {c : UInt8} {r : List UInt8} (h : ws c = false) (h2 : c = 47 ∧ r.head? = some 47) : skipL (c :: r) = skipL (eol r) := by rw [skipL,if_neg (by simp [h]),if_pos h2]
theorem skip_bad {c : UInt8} {r : List UInt8} (h : ws c = false) (h2 : c = 47 ∧ r.head? = some 42) (h3 : eoc r.tail = none) : skipL (c :: r) = (c :: r,false) := by
 rw [skipL,if_neg (by simp [h]),if_neg (by rw [h2.2]; simp),if_pos h2]
 split
 ·rfl
 ·rename_i x hx; rw [h3] at hx; cases hx
theorem skip_com {c : UInt8} {r x : List UInt8} (h : ws c = false) (h2 : c = 47 ∧ r.head? = some 42) (h3 : eoc r.tail = some x) : skipL (c :: r) = skipL x := by
 rw [skipL,if_neg (by simp [h]),if_neg (by rw [h2.2]; simp),if_pos h2]
 split
 ·rename_i hx; rw [h3] at hx; cases hx
 ·rename_i y hy; rw [h3] at hy; cases hy; rfl
theorem skip_not {c : UInt8} {r : List UInt8} (h : ws c = false) (h2 : ¬ (c = 47 ∧ r.head? = some 47)) (h3 : ¬ (c = 47 ∧ r.head? = some 42)) : skipL (c :: r) = (c :: r,true) := by
 rw [skipL,if_neg (by simp [h]),if_neg h2,if_neg h3]
theorem skip_ind {P : List UInt8 → Prop} (h0 : P []) (h1 : ∀ c r,ws c = true → P r → P (c :: r)) (h2 : ∀ c r,ws c = false → c = 47 ∧ r.head? = some 47 → P (eol r) → P (c :: r))
  (h3 : ∀ c r,ws c = false → c = 47 ∧ r.head? = some 42 → eoc r.tail = none → P (c :: r)) (h4 : ∀ c r x,ws c = false → c = 47 ∧ r.head? = some 42 → eoc r.tail = some x → P x → P (c :: r))
  (h5 : ∀ c r,ws c = false → ¬ (c = 47 ∧ r.head? = some 47) → ¬ (c = 47 ∧ r.head? = some 42) → P (c :: r)) (s : List UInt8) : P s := by
 induction s using skipL.induct with
 | case1 => exact h0
 | case2 c r h ih => exact h1 c r h ih
 | case3 c r h h' ih => exact h2 c r (by simpa using h) h' ih
 | case4 c r h _ h' h'' => exact h3 c r (by simpa using h) h' h''
 | case5 c r h _ h' x h'' ih => exact h4 c r x (by simpa using h) h' h'' ih
 | case6 c r h h' h'' => exact h5 c r (by simpa using h) h' h''
theorem skip_suf (s : List UInt8) : ∃ p,s = p ++ (skipL s).1 := by
 refine skip_ind (P := fun s => ∃ p,s = p ++ (skipL s).1) ⟨[],by rw [skip_nil]; rfl⟩ ?_ ?_ ?_ ?_ ?_ s
 ·rintro c r h ⟨p,hp⟩; exact ⟨c :: p,by rw [skip_ws r h,List.cons_append,← hp]⟩
 ·rintro c r h h2 ⟨p,hp⟩
  obtain ⟨q,hq,_⟩ := eol_suf r
  exact ⟨c :: (q ++ p),by rw [skip_line h h2,List.cons_append,List.append_assoc,← hp,← hq]⟩
 ·intro c r h h2 h3; exact ⟨[],by rw [skip_bad h h2 h3]; rfl⟩
 ·rintro c r x h h2 h3 ⟨p,hp⟩
  obtain ⟨q,hq⟩ := eoc_suf _ _ h3
  cases r with
  | nil => simp at h2
  | cons b r => exact ⟨c :: b :: (q ++ p),by rw [skip_com h h2 h3,List.cons_append,List.cons_append,List.append_assoc,← hp]; simp only [List.tail_cons] at hq; rw [← hq]⟩
 ·intro c r h h2 h3; exact ⟨[],by rw [skip_not h h2 h3]; rfl⟩
theorem digits_le (base : Nat) : ∀ (s : List UInt8) (n v : Nat),n ≤ 4294967295 → digits base n s = some v → v ≤ 4294967295
 | [],n,v,h,e => by simp only [digits,Option.some.injEq] at e; omega
 | c :: r,n,v,h,e => by
  simp only [digits] at e
  split at e
  ·cases e
  ·split at e
   ·cases e
   ·rename_i h3; exact digits_le base r _ v (by omega) e
theorem val_le {s : List UInt8} {v : Nat} (h : valL s = some v) : v ≤ 4294967295 := by
 unfold valL at h
 split at h
 ·cases h
 ·exact digits_le _ _ _ _ (by omega) h
theorem esc_le {c : UInt8} {v : Nat} (h : escB c = some v) : v ≤ 92 := by
 unfold escB at h
 repeat' split at h
 all_goals cases h
 all_goals decide
theorem char_is {c : UInt8} {r : List UInt8} {v k : Nat} (h : charL (c :: r) = some (v,k)) :
  (∃ a x,r = a :: 39 :: x ∧ a ≠ 92 ∧ a ≠ 39 ∧ a ≠ 10 ∧ v = a.toNat ∧ k = 3) ∨ (∃ b x,r = 92 :: b :: 39 :: x ∧ escB b = some v ∧ k = 4) := by
 cases r with
 | nil => simp [charL] at h
 | cons a r =>
 cases r with
 | nil => simp [charL] at h
 | cons b r =>
 simp only [charL] at h
 split at h
 ·rename_i ha
  split at h
  ·rename_i hr
   cases r with
   | nil => simp at hr
   | cons d r =>
   simp only [List.head?_cons,Option.some.injEq] at hr
   cases he : escB b with
   | none => rw [he] at h; cases h
   | some w => rw [he] at h; simp only [Option.map_some,Option.some.injEq,Prod.mk.injEq] at h; exact .inr ⟨b,r,by rw [ha,hr],by rw [← h.1]; exact he,h.2.symm⟩
  ·cases h
 ·rename_i ha
  split at h
  ·rename_i hb; simp only [Option.some.injEq,Prod.mk.injEq] at h; exact .inl ⟨a,r,by rw [hb.1],ha,hb.2.1,hb.2.2,h.1.symm,h.2.symm⟩
  ·cases h
theorem signs_ne : ∀ x ∈ signs,x ≠ [] ∧ (32 : UInt8) ∉ x ∧ (10 : UInt8) ∉ x ∧ (x.head? = some 47 → x.tail.head? ≠ some 47 ∧ x.tail.head? ≠ some 42) := by decide
theorem sign_is {s x : List UInt8} (h : signL s = some x) : x ∈ signs ∧ ∃ y,s = x ++ y := by
 refine ⟨List.mem_of_find?_eq_some h,?_⟩
 have h1 := List.find?_some h
 obtain ⟨y,hy⟩ := List.isPrefixOf_iff_prefix.1 h1
 exact ⟨y,hy.symm⟩
theorem tok_ways {c : UInt8} {r : List UInt8} {k : Int} {t : List UInt8} {n : Nat} (h : tokL (c :: r) = .tok k t n) :
  (letB c = true ∧ t = (c :: r).takeWhile aln ∧ (k = 1 ∨ k = 2) ∧ n = 0) ∨ (letB c = false ∧ digB c = true ∧ t = (c :: r).takeWhile aln ∧ k = 3 ∧ valL t = some n) ∨
  (letB c = false ∧ digB c = false ∧ c = 39 ∧ k = 3 ∧ ∃ m,charL (c :: r) = some (n,m) ∧ t = (c :: r).take m) ∨ (letB c = false ∧ digB c = false ∧ c ≠ 39 ∧ k = 4 ∧ n = 0 ∧ signL (c :: r) = some t) := by
 simp only [tokL] at h
 split at h
 ·rename_i h1; injection h with a b d; refine .inl ⟨h1,b.symm,?_,d.symm⟩; rw [← a]; split <;> simp
 ·rename_i h1
  split at h
  ·rename_i h2
   split at h
   ·cases h
   ·rename_i v hv; injection h with a b d; refine .inr (.inl ⟨by simpa using h1,h2,b.symm,a.symm,?_⟩); rw [← b,← d]; exact hv
  ·rename_i h2
   split at h
   ·rename_i h3
    split at h
    ·cases h
    ·rename_i v m hv; injection h with a b d; refine .inr (.inr (.inl ⟨by simpa using h1,by simpa using h2,h3,a.symm,m,?_,b.symm⟩)); rw [← d]; exact hv
   ·rename_i h3
    split at h
    ·cases h
    ·rename_i x hx; injection h with a b d; refine .inr (.inr (.inr ⟨by simpa using h1,by simpa using h2,h3,a.symm,d.symm,?_⟩)); rw [← b]; exact hx
theorem aln_of_let {c : UInt8} (h : letB c = true) : aln c = true := by simp [aln,h]
theorem aln_of_dig {c : UInt8} (h : digB c = true) : aln c = true := by simp [aln,h]
theorem tok_pre {c : UInt8} {r : List UInt8} {k : Int} {t : List UInt8} {n : Nat} (h : tokL (c :: r) = .tok k t n) : ∃ t' x,t = c :: t' ∧ r = t' ++ x ∧ 1 ≤ k ∧ k ≤ 4 ∧ n ≤ 4294967295 := by
 have tw : aln c = true → ∃ t' x,(c :: r).takeWhile aln = c :: t' ∧ r = t' ++ x := fun ha => ⟨r.takeWhile aln,r.dropWhile aln,by rw [List.takeWhile_cons,ha]; rfl,(List.takeWhile_append_dropWhile).symm⟩
 rcases tok_ways h with ⟨h1,h2,h3,h4⟩ | ⟨h1,h2,h3,h4,h5⟩ | ⟨h1,h2,h3,h4,m,h5,h6⟩ | ⟨h1,h2,h3,h4,h5,h6⟩
 ·obtain ⟨t',x,e1,e2⟩ := tw (aln_of_let h1)
  exact ⟨t',x,h2.trans e1,e2,by omega,by omega,by omega⟩
 ·obtain ⟨t',x,e1,e2⟩ := tw (aln_of_dig h2)
  exact ⟨t',x,h3.trans e1,e2,by omega,by omega,val_le h5⟩
 ·rcases char_is h5 with ⟨a,x,e1,_,_,_,e2,e3⟩ | ⟨b,x,e1,e2,e3⟩
  ·subst e3; subst e1
   have := a.toNat_lt
   exact ⟨[a,39],x,h6,rfl,by omega,by omega,by omega⟩
  ·subst e3; subst e1
   have := esc_le e2
   exact ⟨[92,b,39],x,h6,rfl,by omega,by omega,by omega⟩
 ·obtain ⟨e1,y,e2⟩ := sign_is h6
  cases t with
  | nil => exact absurd rfl (signs_ne _ e1).1
  | cons d t' =>
   simp only [List.cons_append,List.cons.injEq] at e2
   exact ⟨t',y,by rw [e2.1],e2.2,by omega,by omega,by omega⟩
theorem tw_all {p : UInt8 → Bool} {a : UInt8} : ∀ {l : List UInt8},a ∈ l.takeWhile p → p a = true
 | [],h => by simp at h
 | b :: l,h => by
  rw [List.takeWhile_cons] at h
  split at h
  ·rename_i hb
   rcases List.mem_cons.1 h with rfl | h
   ·exact hb
   ·exact tw_all h
  ·simp at h
end Go.Sc
/- All tokens: where they are counts for nothing; joined with blanks they are scanned as the same; where they stand. -/
namespace Go.Sc
open Go.En
def fin (p : Nat) : Dop.Tok := ⟨0,[],0,((p : Nat) : Int)⟩
theorem scan_bad {s : List UInt8} (a cnt : Nat) {x : List UInt8} (h : skipL s = (x,false)) : scanL a cnt s = .err (a + (s.length - x.length)) 2 := by
 rw [scanL,if_pos (by rw [h]),h]
theorem scan_end {s : List UInt8} (a cnt : Nat) (h : skipL s = ([],true)) : scanL a cnt s = .ok [fin (a + s.length)] := by
 rw [scanL,if_neg (by rw [h]; simp)]
 split
 ·rfl
 ·rename_i h'; rw [h] at h'; cases h'
theorem scan_err {s : List UInt8} (a cnt : Nat) {c : UInt8} {r : List UInt8} {e : Int} (h : skipL s = (c :: r,true)) (ht : tokL (c :: r) = .err e) : scanL a cnt s = .err (a + (s.length - (c :: r).length)) e := by
 rw [scanL,if_neg (by rw [h]; simp)]
 split
 ·rename_i h'; rw [h] at h'; cases h'
 ·rename_i c' r' h'; rw [h] at h'; cases h'; rw [ht]
theorem scan_full {s : List UInt8} (a : Nat) {cnt : Nat} {c : UInt8} {r : List UInt8} {k : Int} {t : List UInt8} {n : Nat} (h : skipL s = (c :: r,true)) (ht : tokL (c :: r) = .tok k t n) (hc : 8192 ≤ cnt) : scanL a cnt s = .err (a + (s.length - (c :: r).length)) 4 := by
 rw [scanL,if_neg (by rw [h]; simp)]
 split
 ·rename_i h'; rw [h] at h'; cases h'
 ·rename_i c' r' h'; rw [h] at h'; cases h'; rw [ht]; simp only [if_pos hc]
theorem scan_tok {s : List UInt8} (a : Nat) {cnt : Nat} {c : UInt8} {r : List UInt8} {k : Int} {t : List UInt8} {n : Nat} (h : skipL s = (c :: r,true)) (ht : tokL (c :: r) = .tok k t n) (hc : cnt < 8192) :
  scanL a cnt s = (scanL (a + (s.length - (c :: r).length) + t.length) (cnt + 1) (r.drop (t.length - 1))).cons ⟨k,t,(n : Int),((a + (s.length - (c :: r).length) : Nat) : Int)⟩ := by
 rw [scanL,if_neg (by rw [h]; simp)]
 split
 ·rename_i h'; rw [h] at h'; cases h'
 ·rename_i c' r' h'; rw [h] at h'; cases h'; rw [ht]; simp only [if_neg (Nat.not_le_of_lt hc)]
theorem scan_ind {P : Nat → List UInt8 → Prop} (h1 : ∀ cnt s x,skipL s = (x,false) → P cnt s) (h2 : ∀ cnt s,skipL s = ([],true) → P cnt s) (h3 : ∀ cnt s c r e,skipL s = (c :: r,true) → tokL (c :: r) = .err e → P cnt s)
  (h4 : ∀ cnt s c r k t n,skipL s = (c :: r,true) → tokL (c :: r) = .tok k t n → 8192 ≤ cnt → P cnt s)
  (h5 : ∀ cnt s c t x k n,skipL s = (c :: (t ++ x),true) → tokL (c :: (t ++ x)) = .tok k (c :: t) n → cnt < 8192 → (∀ cnt',P cnt' x) → P cnt s) : ∀ s cnt,P cnt s := by
 have main : ∀ m s,s.length < m → ∀ cnt,P cnt s := by
  intro m
  induction m with
  | zero => intro s h; omega
  | succ m ih =>
   intro s hs cnt
   have hl := skipL_le s
   cases hk : skipL s with
   | mk x b =>
    rw [hk] at hl
    cases b with
    | false => exact h1 cnt s x hk
    | true =>
     cases x with
     | nil => exact h2 cnt s hk
     | cons c r =>
      cases ht : tokL (c :: r) with
      | err e => exact h3 cnt s c r e hk ht
      | tok k t n =>
       by_cases hc : 8192 ≤ cnt
       ·exact h4 cnt s c r k t n hk ht hc
       ·obtain ⟨t',x,e1,e2,_,_,_⟩ := tok_pre ht
        subst e1; subst e2
        refine h5 cnt s c t' x k n hk ht (by omega) fun cnt' => ih x ?_ cnt'
        simp only [List.length_cons,List.length_append] at hl
        omega
 exact fun s cnt => main (s.length + 1) s (Nat.lt_succ_self _) cnt
theorem drop_tok (c : UInt8) (t x : List UInt8) : (t ++ x).drop ((c :: t).length - 1) = x := by simp
def strip (t : Dop.Tok) : Dop.Tok := ⟨t.kind,t.text,t.n,0⟩
def Scn.strip : Scn → Scn
 | .err _ e => .err 0 e
 | .ok l => .ok (l.map Sc.strip)
theorem strip_cons (t : Dop.Tok) : ∀ m : Scn,(m.cons t).strip = m.strip.cons (strip t)
 | .err _ _ => rfl
 | .ok _ => rfl
theorem cons_ok {t : Dop.Tok} {m : Scn} {l : List Dop.Tok} (h : m.cons t = .ok l) : ∃ l',m = .ok l' ∧ l = t :: l' := by
 cases m with
 | err a e => cases h
 | ok l' => injection h with h; exact ⟨l',rfl,h.symm⟩
theorem strip_at : ∀ s cnt a a',(scanL a cnt s).strip = (scanL a' cnt s).strip := by
 refine scan_ind (P := fun cnt s => ∀ a a',(scanL a cnt s).strip = (scanL a' cnt s).strip) ?_ ?_ ?_ ?_ ?_
 ·intro cnt s x h a a'; rw [scan_bad _ _ h,scan_bad _ _ h]; rfl
 ·intro cnt s h a a'; rw [scan_end _ _ h,scan_end _ _ h]; rfl
 ·intro cnt s c r e h h2 a a'; rw [scan_err _ _ h h2,scan_err _ _ h h2]; rfl
 ·intro cnt s c r k t n h h2 h3 a a'; rw [scan_full _ h h2 h3,scan_full _ h h2 h3]; rfl
 ·intro cnt s c t x k n h h2 h3 ih a a'
  rw [scan_tok _ h h2 h3,scan_tok _ h h2 h3,strip_cons,strip_cons,drop_tok,ih (cnt + 1) _ (a' + (s.length - (c :: (t ++ x)).length) + (c :: t).length)]
  rfl
theorem strip_skip {s s' : List UInt8} (h : skipL s = skipL s') (cnt a a' : Nat) : (scanL a cnt s).strip = (scanL a' cnt s').strip := by
 cases hk : skipL s with
 | mk x b =>
  have hk' : skipL s' = (x,b) := h ▸ hk
  cases b with
  | false => rw [scan_bad _ _ hk,scan_bad _ _ hk']; rfl
  | true =>
   cases x with
   | nil => rw [scan_end _ _ hk,scan_end _ _ hk']; rfl
   | cons c r =>
    cases ht : tokL (c :: r) with
    | err e => rw [scan_err _ _ hk ht,scan_err _ _ hk' ht]; rfl
    | tok k t n =>
     by_cases hc : 8192 ≤ cnt
     ·rw [scan_full _ hk ht hc,scan_full _ hk' ht hc]; rfl
     ·rw [scan_tok _ hk ht (by omega),scan_tok _ hk' ht (by omega),strip_cons,strip_cons,strip_at _ _ _ (a' + (s'.length - (c :: r).length) + t.length)]
      rfl
def joined (l : List Dop.Tok) : List UInt8 := l.flatMap fun t => t.text ++ [32]
theorem joined_cons (t : Dop.Tok) (l : List Dop.Tok) : joined (t :: l) = t.text ++ 32 :: joined l := by simp [joined]
theorem joined_len : ∀ s cnt a l,scanL a cnt s = .ok l → (joined l).length ≤ 2 * s.length + 1 ∧ l.length ≤ s.length + 1 := by
 refine scan_ind (P := fun cnt s => ∀ a l,scanL a cnt s = .ok l → (joined l).length ≤ 2 * s.length + 1 ∧ l.length ≤ s.length + 1) ?_ ?_ ?_ ?_ ?_
 ·intro cnt s x h a l e; rw [scan_bad _ _ h] at e; cases e
 ·intro cnt s h a l e
  rw [scan_end _ _ h] at e
  injection e with e
  subst e
  exact ⟨by show 1 ≤ _; omega,by show 1 ≤ _; omega⟩
 ·intro cnt s c r e h h2 a l e'; rw [scan_err _ _ h h2] at e'; cases e'
 ·intro cnt s c r k t n h h2 h3 a l e'; rw [scan_full _ h h2 h3] at e'; cases e'
 ·intro cnt s c t x k n h h2 h3 ih a l e
  rw [scan_tok _ h h2 h3,drop_tok] at e
  obtain ⟨l',e1,e2⟩ := cons_ok e
  have e3 := ih (cnt + 1) _ l' e1
  have hl := skipL_le s
  rw [h] at hl
  subst e2
  rw [joined_cons]
  simp only [List.length_cons,List.length_append] at hl e3 ⊢
  omega
def Pl (S : List UInt8) : Nat → List Dop.Tok → Prop
 | _,[] => False
 | at_,t :: r => (r = [] ∧ t = fin S.length ∧ at_ ≤ S.length) ∨ (r ≠ [] ∧ 1 ≤ t.kind ∧ t.kind ≤ 4 ∧ 0 ≤ t.n ∧ t.n < 4294967296 ∧ t.text ≠ [] ∧ ∃ p : Nat,t.at_ = (p : Int) ∧ at_ ≤ p ∧ p + t.text.length ≤ S.length ∧ (S.drop p).take t.text.length = t.text ∧ Pl S (p + t.text.length) r)
theorem Pl.ne {S : List UInt8} {a : Nat} {l : List Dop.Tok} (h : Pl S a l) : l ≠ [] := by
 rintro rfl; exact h
theorem places (S : List UInt8) : ∀ s cnt a l,scanL a cnt s = .ok l → S.drop a = s → a ≤ S.length → Pl S a l := by
 refine scan_ind (P := fun cnt s => ∀ a l,scanL a cnt s = .ok l → S.drop a = s → a ≤ S.length → Pl S a l) ?_ ?_ ?_ ?_ ?_
 ·intro cnt s x h a l e; rw [scan_bad _ _ h] at e; cases e
 ·intro cnt s h a l e e2 e3
  rw [scan_end _ _ h] at e
  injection e with e
  subst e
  refine .inl ⟨rfl,?_,e3⟩
  have : s.length = S.length - a := by rw [← e2,List.length_drop]
  rw [this,show a + (S.length - a) = S.length by omega]
 ·intro cnt s c r e h h2 a l e'; rw [scan_err _ _ h h2] at e'; cases e'
 ·intro cnt s c r k t n h h2 h3 a l e'; rw [scan_full _ h h2 h3] at e'; cases e'
 ·intro cnt s c t x k n h h2 h3 ih a l e e2 e3
  rw [scan_tok _ h h2 h3,drop_tok] at e
  obtain ⟨l',e1,e4⟩ := cons_ok e
  obtain ⟨p,hp⟩ := skip_suf s
  rw [h] at hp
  have hs : s.length - (c :: (t ++ x)).length = p.length := by rw [hp]; simp
  rw [hs] at e1 e4
  have hd : S.drop (a + p.length) = c :: t ++ x := by rw [← List.drop_drop,e2,hp]; simp
  have hd2 : S.drop (a + p.length + (c :: t).length) = x := by rw [← List.drop_drop,hd,List.drop_left]
  have hle : a + p.length + (c :: t).length ≤ S.length := by
   have := congrArg List.length hd
   rw [List.length_drop,List.length_append] at this
   have h1 : 0 < (c :: t).length := by simp
   omega
  obtain ⟨t',x',g1,g2,g3,g4,g5⟩ := tok_pre h2
  have hr := ih (cnt + 1) _ l' e1 hd2 hle
  subst e4
  exact .inr ⟨hr.ne,g3,g4,by show (0 : Int) ≤ n; omega,by show (n : Int) < _; omega,by simp,a + p.length,rfl,by omega,hle,by show (S.drop (a + p.length)).take (c :: t).length = c :: t; rw [hd,List.take_left],hr⟩
end Go.Sc
/- What is behind a blank: white space, or a comment, between two sources is as a blank between. -/
namespace Go.Sc
open Go.En
def Scn.pre (ts : List Dop.Tok) : Scn → Scn
 | .err a e => .err a e
 | .ok l => .ok (ts ++ l)
theorem pre_nil : ∀ m : Scn,m.pre [] = m
 | .err _ _ => rfl
 | .ok _ => rfl
end Go.Sc
/- A text that is put together of tokens is scanned as these: by pieces, wherever they stand. -/
set_option maxRecDepth 100000
namespace Go.Sc
open Go.En
def Sd (u : List UInt8) (ts : List Dop.Tok) (v : List UInt8) : Prop := ∀ cnt,cnt ≤ 8192 → ∀ p,(scanL p cnt (u ++ v)).strip = if cnt + ts.length ≤ 8192 then (scanL 0 (cnt + ts.length) v).strip.pre ts else .err 0 4
theorem pre_pre (a b : List Dop.Tok) : ∀ m : Scn,(m.pre b).pre a = m.pre (a ++ b)
 | .err _ _ => rfl
 | .ok l => by simp [Scn.pre]
theorem Sd.nil {v : List UInt8} : Sd [] [] v := fun cnt hc p => by
 rw [if_pos (by simpa using hc),List.nil_append,pre_nil,strip_at _ _ _ 0]; rfl
theorem Sd.app {u u' v : List UInt8} {ts ts' : List Dop.Tok} (h : Sd u ts (u' ++ v)) (h' : Sd u' ts' v) : Sd (u ++ u') (ts ++ ts') v := fun cnt hc p => by
 rw [List.append_assoc,h cnt hc p,List.length_append]
 split
 ·rename_i h1
  rw [h' _ h1 0]
  split
  ·rename_i h2
   rw [if_pos (by omega),pre_pre,Nat.add_assoc]
  ·rename_i h2
   rw [if_neg (by omega)]; rfl
 ·rename_i h1
  rw [if_neg (by omega)]
theorem Sd.ws {c : UInt8} {v : List UInt8} (h : Sc.ws c = true) : Sd [c] [] v := fun cnt hc p => by
 rw [if_pos (by simpa using hc),pre_nil]
 exact strip_skip (skip_ws _ h) _ _ _
theorem Sd.tok {c : UInt8} {t v : List UInt8} {k : Int} {n : Nat} (h0 : skipL (c :: (t ++ v)) = (c :: (t ++ v),true)) (h : tokL (c :: (t ++ v)) = .tok k (c :: t) n) : Sd (c :: t) [⟨k,c :: t,(n : Int),0⟩] v := fun cnt hc p => by
 rw [List.cons_append]
 by_cases h3 : cnt < 8192
 ·rw [scan_tok _ h0 h h3,drop_tok,strip_cons,strip_at _ _ _ 0,if_pos (by show cnt + 1 ≤ 8192; omega)]
  cases (scanL 0 (cnt + 1) v).strip <;> rfl
 ·rw [scan_full _ h0 h (by omega),if_neg (by simp; omega)]; rfl
theorem skip_let {c : UInt8} {r : List UInt8} (h : aln c = true) : skipL (c :: r) = (c :: r,true) := by
 have h1 : ∀ n : Fin 256,aln n.val.toUInt8 = true → ws n.val.toUInt8 = false ∧ n.val.toUInt8 ≠ 47 := by decide +kernel
 have e : c = (⟨c.toNat,c.toNat_lt⟩ : Fin 256).val.toUInt8 := by simp
 rw [e] at h
 have h2 := h1 _ h
 rw [← e] at h2
 exact skip_not h2.1 (fun hh => h2.2 hh.1) (fun hh => h2.2 hh.1)
def Brk (v : List UInt8) : Prop := ∀ c r,v = c :: r → aln c = false
theorem tw_brk {v : List UInt8} (hv : Brk v) : ∀ {t : List UInt8},(∀ c ∈ t,aln c = true) → (t ++ v).takeWhile aln = t
 | [],_ => by
  cases v with
  | nil => rfl
  | cons c r => rw [List.nil_append,List.takeWhile_cons,hv c r rfl]; rfl
 | c :: t,h => by
  rw [List.cons_append,List.takeWhile_cons,h c List.mem_cons_self,if_pos rfl,tw_brk hv fun d hd => h d (List.mem_cons_of_mem _ hd)]
def isName (t : List UInt8) : Bool := match t with
 | [] => false
 | c :: r => letB c && r.all aln
theorem Sd.name {t v : List UInt8} (h : isName t = true) (hv : Brk v) : Sd t [⟨if t ∈ words then 2 else 1,t,0,0⟩] v := by
 cases t with
 | nil => cases h
 | cons c r =>
  have h := Bool.and_eq_true_iff.1 h
  have ha : ∀ d ∈ c :: r,aln d = true := fun d hd => by
   rcases List.mem_cons.1 hd with rfl | hd
   ·exact aln_of_let h.1
   ·exact List.all_eq_true.1 h.2 d hd
  have e := tw_brk hv ha
  refine Sd.tok (n := 0) (skip_let (aln_of_let h.1)) ?_
  rw [List.cons_append] at e
  simp only [tokL,if_pos h.1,e]
def Stop (x v : List UInt8) : Prop := ∀ c r,v = c :: r → ∀ y ∈ signs,¬ (x ++ [c]) <+: y
theorem stop_end {x : List UInt8} (v : List UInt8) (h : ∀ y ∈ signs,x <+: y → y = x) : Stop x v := fun c r _ y hy hp => by
 have h1 := h y hy ((List.prefix_append _ _).trans hp)
 have h2 := hp.length_le
 rw [h1,List.length_append,List.length_singleton] at h2
 omega
theorem sign_of {x v : List UInt8} (hx : signL x = some x) (hs : Stop x v) : signL (x ++ v) = some x := by
 have hmem := (sign_is hx).1
 unfold signL at hx ⊢
 rw [List.find?_eq_some_iff_append] at hx ⊢
 obtain ⟨h1,xs,bs,h2,h3⟩ := hx
 refine ⟨List.isPrefixOf_iff_prefix.2 (List.prefix_append _ _),xs,bs,h2,fun y hy => ?_⟩
 have h4 := h3 y hy
 simp only [Bool.not_eq_true',Bool.not_eq_eq_eq_not,Bool.not_true] at h4 ⊢
 refine Bool.eq_false_iff.2 fun hp => ?_
 have hp := List.isPrefixOf_iff_prefix.1 hp
 have hys : y ∈ signs := by rw [h2]; exact List.mem_append_left _ hy
 rcases Nat.lt_or_ge x.length y.length with hl | hl
 ·cases v with
  | nil => have := hp.length_le; rw [List.append_nil] at this; omega
  | cons c r =>
   refine hs c r rfl y hys ?_
   obtain ⟨q,hq⟩ := hp
   have : x ++ [c] <+: y ++ q := by rw [hq]; exact ⟨r,by simp⟩
   exact List.prefix_of_prefix_length_le this (List.prefix_append _ _) (by simp; omega)
 ·have h5 : y <+: x := List.prefix_of_prefix_length_le hp (List.prefix_append _ _) hl
  rw [List.isPrefixOf_iff_prefix.2 h5] at h4
  cases h4
theorem Sd.sign {x v : List UInt8} (hx : signL x = some x) (hs : Stop x v) (hd : ∀ c r,x ++ v = c :: r → letB c = false ∧ digB c = false ∧ c ≠ 39 ∧ Sc.ws c = false ∧ ¬ (c = 47 ∧ r.head? = some 47) ∧ ¬ (c = 47 ∧ r.head? = some 42)) : Sd x [⟨4,x,0,0⟩] v := by
 have e := sign_of hx hs
 cases x with
 | nil => exact absurd (sign_is hx).1 (by decide)
 | cons c t =>
  obtain ⟨d1,d2,d3,d4,d5,d6⟩ := hd c (t ++ v) rfl
  refine Sd.tok (n := 0) (skip_not d4 d5 d6) ?_
  rw [List.cons_append] at e
  simp only [tokL,d1,d2,Bool.false_eq_true,if_false,if_neg d3,e]
def sgB (x : List UInt8) : Bool := match x with
 | [] => false
 | c :: _ => decide (signL x = some x) && !letB c && !digB c && !decide (c = 39) && !Sc.ws c && !decide (c = 47)
theorem Sd.sgn {x v : List UInt8} (hx : sgB x = true) (hs : Stop x v) : Sd x [⟨4,x,0,0⟩] v := by
 cases x with
 | nil => cases hx
 | cons c t =>
  simp only [sgB,Bool.and_eq_true,decide_eq_true_eq,Bool.not_eq_true',decide_eq_false_iff_not] at hx
  obtain ⟨⟨⟨⟨⟨h1,h2⟩,h3⟩,h4⟩,h5⟩,h6⟩ := hx
  refine Sd.sign h1 hs fun d r e => ?_
  cases e
  exact ⟨h2,h3,h4,h5,fun h => h6 h.1,fun h => h6 h.1⟩
theorem Sd.end_ {x v : List UInt8} (hx : sgB x = true) (h : ∀ y ∈ signs,x <+: y → y = x) : Sd x [⟨4,x,0,0⟩] v := Sd.sgn hx (stop_end v h)
theorem Sd.all {u : List UInt8} {ts : List Dop.Tok} (h : Sd u ts []) : (scanL 0 0 u).strip = if ts.length ≤ 8192 then .ok (ts ++ [⟨0,[],0,0⟩]) else .err 0 4 := by
 have h1 := h 0 (by omega) 0
 rw [List.append_nil,Nat.zero_add] at h1
 rw [h1]
 split
 ·rw [scan_end _ _ skip_nil]; rfl
 ·rfl
theorem strip_ok {m : Scn} {ts : List Dop.Tok} (h : m.strip = .ok ts) : ∃ l,m = .ok l ∧ l.map strip = ts := by
 cases m with
 | err a e => cases h
 | ok l => exact ⟨l,rfl,by injection h⟩
end Go.Sc
