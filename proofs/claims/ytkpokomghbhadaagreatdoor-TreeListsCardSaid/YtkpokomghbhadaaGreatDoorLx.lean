/- Layer 2, plain: signs and words. -/
import Derived.Test.YtkpokomghbhadaaGreatDoorLfA
import Derived.Test.YtkpokomghbhadaaGreatDoorSc
set_option linter.unusedSimpArgs false
namespace Go.Proofs.Law
open Go Go.En Go.Proofs
theorem I_eq (n : Nat) : I n = (n : Int) := rfl
theorem I_lt {a b : Nat} (h : a < b) : I a < I b := by simp only [I_eq]; omega
theorem I_nlt (a : Nat) : ¬ I a < I a := by simp only [I_eq]; omega
theorem I_nn (a : Nat) : (0 : Int) ≤ I a := by simp only [I_eq]; omega
theorem I_nat (a : Nat) : (I a).toNat = a := Int.toNat_natCast a
theorem I_s (a : Nat) : I a + 1 = I (a + 1) := by simp only [I_eq]; omega
theorem I_in {a b : Nat} (h : a < b) (hb : b < 1000000) : inR (I (a + 1)) = true := by rw [inR_iff]; simp only [I_eq]; omega
end Go.Proofs.Law
/- Layer 2, plain: a word within a row of words. -/
namespace Go.Proofs.Law
open Go Go.En Go.Proofs
theorem index_iff (sub : List UInt8) : ∀ s : List UInt8,0 ≤ Lib.index s sub ↔ ∃ pre suf,s = pre ++ (sub ++ suf)
 | [] => by
  unfold Lib.index
  cases sub with
  | nil => exact ⟨fun _ => ⟨[],[],rfl⟩,fun _ => by simp⟩
  | cons a r => exact ⟨fun h => by simp at h,fun ⟨pre,suf,h⟩ => by simp at h⟩
 | b :: l => by
  have ih := index_iff sub l
  unfold Lib.index
  by_cases c : sub.isPrefixOf (b :: l) = true
  ·rw [if_pos c]
   obtain ⟨t,ht⟩ := List.isPrefixOf_iff_prefix.1 c
   exact ⟨fun _ => ⟨[],t,by simpa using ht.symm⟩,fun _ => Int.le_refl _⟩
  ·rw [if_neg c]
   have hno : ∀ pre suf,b :: l = pre ++ (sub ++ suf) → ∃ pre',l = pre' ++ (sub ++ suf) := fun pre suf h => by
    cases pre with
    | nil => exact absurd (List.isPrefixOf_iff_prefix.2 ⟨suf,by simpa using h.symm⟩) c
    | cons x r => simp only [List.cons_append,List.cons.injEq] at h; exact ⟨r,h.2⟩
   by_cases d : Lib.index l sub = -1
   ·rw [if_pos (by simpa using d)]
    refine ⟨fun h => by omega,fun ⟨pre,suf,h⟩ => ?_⟩
    obtain ⟨pre',h'⟩ := hno pre suf h
    have := ih.2 ⟨pre',suf,h'⟩
    omega
   ·rw [if_neg (by simpa using d)]
    constructor
    ·intro h
     by_cases e : 0 ≤ Lib.index l sub
     ·obtain ⟨pre,suf,h'⟩ := ih.1 e
      exact ⟨b :: pre,suf,by rw [h']; rfl⟩
     ·exact ⟨b :: l,[],by omega⟩
    ·rintro ⟨pre,suf,h⟩
     obtain ⟨pre',h'⟩ := hno pre suf h
     have := ih.2 ⟨pre',suf,h'⟩
     omega
theorem cut_eq : ∀ (a w x y : List UInt8),(32 : UInt8) ∉ a → (32 : UInt8) ∉ w → a ++ 32 :: x = w ++ 32 :: y → a = w
 | [],[],_,_,_,_,_ => rfl
 | [],b :: w,x,y,_,h2,h => by
  simp only [List.nil_append,List.cons_append,List.cons.injEq] at h
  exact absurd (by rw [h.1]; exact List.mem_cons_self) h2
 | b :: a,[],x,y,h1,_,h => by
  simp only [List.nil_append,List.cons_append,List.cons.injEq] at h
  exact absurd (by rw [← h.1]; exact List.mem_cons_self) h1
 | b :: a,c :: w,x,y,h1,h2,h => by
  simp only [List.cons_append,List.cons.injEq] at h
  rw [h.1,cut_eq a w x y (fun m => h1 (List.mem_cons_of_mem _ m)) (fun m => h2 (List.mem_cons_of_mem _ m)) h.2]
def rowW (l : List (List UInt8)) : List UInt8 := 32 :: l.flatMap fun a => a ++ [32]
theorem rowW_cons (a : List UInt8) (r : List (List UInt8)) : rowW (a :: r) = 32 :: (a ++ rowW r) := by simp [rowW]
theorem rowW_iff (w : List UInt8) (hw : (32 : UInt8) ∉ w) : ∀ (l : List (List UInt8)),(∀ a ∈ l,(32 : UInt8) ∉ a) → ((∃ pre suf,rowW l = pre ++ ((32 :: w ++ [32]) ++ suf)) ↔ w ∈ l)
 | [],_ => by
  refine ⟨fun ⟨pre,suf,h⟩ => ?_,fun h => by cases h⟩
  have := congrArg List.length h
  simp [rowW] at this
  omega
 | a :: r,hl => by
  have ha := hl a List.mem_cons_self
  have ih := rowW_iff w hw r (fun x hx => hl x (List.mem_cons_of_mem _ hx))
  rw [rowW_cons,List.mem_cons]
  constructor
  ·rintro ⟨pre,suf,h⟩
   cases pre with
   | nil =>
    simp only [List.nil_append,List.cons_append,List.cons.injEq,true_and,List.append_assoc] at h
    exact .inl (cut_eq a w _ _ ha hw h).symm
   | cons x pre =>
    simp only [List.cons_append,List.cons.injEq] at h
    rcases List.append_eq_append_iff.1 h.2 with ⟨q,h1,h2⟩ | ⟨q,h1,h2⟩
    ·exact .inr (ih.1 ⟨q,suf,by simpa using h2⟩)
    ·cases q with
     | nil => exact .inr (ih.1 ⟨[],suf,by simpa using h2.symm⟩)
     | cons z q =>
      simp only [List.cons_append,List.cons.injEq] at h2
      exact absurd (by rw [h1,← h2.1]; simp) ha
  ·rintro (h | h)
   ·subst h
    exact ⟨[],(rowW r).drop 1,by simp [rowW]⟩
   ·obtain ⟨pre,suf,h'⟩ := ih.2 h
    exact ⟨32 :: (a ++ pre),suf,by rw [h']; simp⟩
end Go.Proofs.Law
/- Layer 2, plain: whether a text is a word. -/
namespace Go.Proofs.Law
open Go Go.En Go.Proofs
def wordsL : List (List UInt8) := Sc.words
theorem words_no : ∀ a ∈ wordsL,(32 : UInt8) ∉ a ∧ a ≠ [] := by
 unfold wordsL
 decide
theorem blank_iff (w : List UInt8) : Lib.contains w [32] = true ↔ (32 : UInt8) ∈ w := by
 unfold Lib.contains
 rw [decide_eq_true_eq,index_iff]
 constructor
 ·rintro ⟨pre,suf,h⟩; rw [h]; simp
 ·intro h
  obtain ⟨pre,suf,h'⟩ := List.append_of_mem h
  exact ⟨pre,suf,by rw [h']; simp⟩
theorem is_fin (w C : List UInt8) (c2 : (32 : UInt8) ∉ w) (hC : C = rowW wordsL) (ho : okS C = true) : (if okS C = true then some ((Lib.contains C ((32 : UInt8) :: ([] : List UInt8) ++ w ++ (32 : UInt8) :: ([] : List UInt8)),()),()) else none) = some ((decide (w ∈ wordsL),()),()) := by
 rw [if_pos ho,hC]
 have h := rowW_iff w c2 wordsL fun a ha => (words_no a ha).1
 have e : Lib.contains (rowW wordsL) ((32 : UInt8) :: ([] : List UInt8) ++ w ++ (32 : UInt8) :: ([] : List UInt8)) = decide (w ∈ wordsL) := by
  unfold Lib.contains
  rw [decide_eq_decide,index_iff,← h]
  rfl
 rw [e]
theorem is_v (w : List UInt8) (hl : w.length ≤ 100000) : Tryz.m51 w = some ((decide (w ∈ wordsL),()),()) := by
 have h0 : okS w = true := decide_eq_true (by omega)
 have k1 : ((32 : UInt8) :: ([] : List UInt8)).length + w.length ≤ 9223372036854775807 := by simp only [List.length_cons,List.length_nil]; omega
 have k2 : ((32 : UInt8) :: ([] : List UInt8) ++ w).length + ((32 : UInt8) :: ([] : List UInt8)).length ≤ 9223372036854775807 := by simp only [List.length_cons,List.length_nil,List.length_append]; omega
 rw [Tryz.m51_eq]
 by_cases c1 : w = []
 ·have : w ∉ wordsL := fun h => (words_no w h).2 c1
  simp only [c1,decide_true,Bool.not_true,Bool.false_eq_true,if_false]
  rw [c1] at this
  simp only [this,decide_false]
 ·by_cases c2 : (32 : UInt8) ∈ w
  ·have : w ∉ wordsL := fun h => (words_no w h).1 c2
   simp only [c1,h0,(blank_iff w).2 c2,this,decide_false,Bool.not_false,Bool.not_true,Bool.false_eq_true,if_false,if_true]
  ·have c3 : Lib.contains w [32] = false := by
    cases hx : Lib.contains w [32] with
    | false => rfl
    | true => exact absurd ((blank_iff w).1 hx) c2
   simp only [c1,h0,c3,k1,k2,decide_true,decide_false,Bool.not_false,if_true]
   exact is_fin w _ c2 (by kernel_rfl) (by kernel_rfl)
end Go.Proofs.Law
/- The program's white space, and its letters and digits, are the plain ones. -/
namespace Go.Proofs.Law
open Go Go.En Go.Proofs
theorem wordsL_eq : wordsL = Sc.words := rfl
theorem strAt_v {s : List UInt8} {k : Nat} {c : UInt8} {r : List UInt8} (h : s.drop k = c :: r) : strAt s (I k) = (c.toNat : Int) := by
 have hk : k < s.length := by
  apply Classical.byContradiction
  intro hn
  rw [List.drop_eq_nil_of_le (by omega)] at h
  cases h
 rw [List.drop_eq_getElem_cons hk] at h
 simp only [List.cons.injEq] at h
 unfold strAt
 rw [I_nat,List.getD,List.getElem?_eq_getElem hk,Option.getD_some,h.1]
theorem drop_lt {s : List UInt8} {k : Nat} {c : UInt8} {r : List UInt8} (h : s.drop k = c :: r) : k < s.length := by
 apply Classical.byContradiction
 intro hn
 rw [List.drop_eq_nil_of_le (by omega)] at h
 cases h
theorem drop_s {s : List UInt8} {k : Nat} {c : UInt8} {r : List UInt8} (h : s.drop k = c :: r) : s.drop (k + 1) = r := by
 rw [← List.drop_drop,h]; rfl
theorem byte_v (c : UInt8) : ((c.toNat : Int)).toNat.toUInt8 = c := by
 rw [Int.toNat_natCast]
 exact UInt8.ofNat_toNat
theorem toNat_byte (c : UInt8) (n : Nat) (hn : n < 256) : c.toNat = n ↔ c = n.toUInt8 := by
 constructor
 ·intro h; rw [← h]; exact UInt8.ofNat_toNat.symm
 ·intro h; rw [h]; show (UInt8.ofNat n).toNat = n; rw [UInt8.toNat_ofNat']; omega
theorem let_v (c : UInt8) : Tryz.m49 (c.toNat : Int) = some ((Sc.letB c,()),()) := by
 rw [Tryz.m49_eq]
 have e : Sc.letB c = decide ((97 ≤ c.toNat ∧ c.toNat ≤ 122) ∨ (65 ≤ c.toNat ∧ c.toNat ≤ 90) ∨ c.toNat = 95) := by
  unfold Sc.letB; simp only [Bool.decide_or,Bool.or_assoc]
 rw [e]
 simp only [decide_eq_true_eq]
 repeat' split
 all_goals simp only [Option.some.injEq,Prod.mk.injEq,and_true,decide_eq_decide]
 all_goals first
  | (rw [eq_comm,decide_eq_true_eq]; omega)
  | omega
theorem dig_v (c : UInt8) : Tryz.m52 (c.toNat : Int) = some ((Sc.digB c,()),()) := by
 rw [Tryz.m52_eq]
 unfold Sc.digB
 simp only [decide_eq_true_eq]
 repeat' split
 all_goals simp only [Option.some.injEq,Prod.mk.injEq,and_true,decide_eq_decide]
 all_goals first
  | (rw [eq_comm,decide_eq_false_iff_not]; omega)
  | omega
theorem indexByte_mem (c : UInt8) : ∀ l : List UInt8,(0 ≤ Lib.indexByte l c ↔ c ∈ l)
 | [] => by simp [Lib.indexByte]
 | b :: l => by
  have ih := indexByte_mem c l
  have hg := Lib.indexByte_ge l c
  unfold Lib.indexByte
  by_cases h : b = c
  ·subst h; simp
  ·have h' : ¬ c = b := fun e => h e.symm
   simp only [beq_iff_eq,h,if_false,List.mem_cons,h',false_or]
   split
   ·rename_i hm; rw [hm] at ih; rw [← ih]
   ·rename_i hm; rw [← ih]; omega
theorem ws_v (c : UInt8) : decide ((0 : Int) ≤ Lib.indexByte ((32 : UInt8) :: (9 : UInt8) :: (10 : UInt8) :: (13 : UInt8) :: @List.nil UInt8) c) = Sc.ws c := by
 have h := indexByte_mem c [32,9,10,13]
 unfold Sc.ws
 rw [Bool.eq_iff_iff,decide_eq_true_eq,h]
 simp only [List.mem_cons,List.not_mem_nil,or_false,Bool.or_eq_true,beq_iff_eq,or_assoc]
theorem eol_ib : ∀ l : List UInt8,(Lib.indexByte l 10 < 0 ∧ Sc.eol l = []) ∨ (∃ n : Nat,Lib.indexByte l 10 = (n : Int) ∧ Sc.eol l = l.drop n ∧ n < l.length)
 | [] => .inl ⟨by simp [Lib.indexByte],rfl⟩
 | c :: r => by
  unfold Lib.indexByte Sc.eol
  by_cases h : c = 10
  ·simp only [h,beq_self_eq_true,if_true]
   exact .inr ⟨0,rfl,rfl,by simp⟩
  ·simp only [beq_iff_eq,h,if_false]
   rcases eol_ib r with ⟨h1,h2⟩ | ⟨n,h1,h2,h3⟩
   ·have hg := Lib.indexByte_ge r 10
    have : Lib.indexByte r 10 = -1 := by omega
    exact .inl ⟨by rw [if_pos this]; omega,h2⟩
   ·refine .inr ⟨n + 1,?_,?_,?_⟩
    ·rw [if_neg (by omega),h1]; omega
    ·rw [h2]; rfl
    ·simp only [List.length_cons]; omega
theorem eoc_ix : ∀ l : List UInt8,(Lib.index l [42,47] < 0 ∧ Sc.eoc l = none) ∨ (∃ n : Nat,Lib.index l [42,47] = (n : Int) ∧ Sc.eoc l = some (l.drop (n + 2)) ∧ n + 2 ≤ l.length)
 | [] => .inl ⟨by simp [Lib.index],rfl⟩
 | c :: r => by
  unfold Lib.index Sc.eoc
  have hp : (([42,47] : List UInt8).isPrefixOf (c :: r) = true) ↔ (c = 42 ∧ r.head? = some 47) := by
   cases r with
   | nil => simp [List.isPrefixOf]
   | cons b r =>
    rw [List.isPrefixOf_iff_prefix]
    simp only [List.cons_prefix_cons,List.nil_prefix,and_true,List.head?_cons,Option.some.injEq]
    exact ⟨fun ⟨a,b⟩ => ⟨a.symm,b.symm⟩,fun ⟨a,b⟩ => ⟨a.symm,b.symm⟩⟩
  by_cases h : c = 42 ∧ r.head? = some 47
  ·rw [if_pos (hp.2 h),if_pos h]
   refine .inr ⟨0,rfl,?_,?_⟩
   ·cases r with
    | nil => simp at h
    | cons b r => rfl
   ·cases r with
    | nil => simp at h
    | cons b r => simp
  ·rw [if_neg (fun e => h (hp.1 e)),if_neg h]
   rcases eoc_ix r with ⟨h1,h2⟩ | ⟨n,h1,h2,h3⟩
   ·have hg := Lib.index_ge r [42,47]
    have : Lib.index r [42,47] = -1 := by omega
    exact .inl ⟨by rw [if_pos (by simpa using this)]; omega,h2⟩
   ·refine .inr ⟨n + 1,?_,?_,?_⟩
    ·rw [if_neg (by rw [h1]; simp),h1]; omega
    ·rw [h2]; rfl
    ·simp only [List.length_cons]; omega
theorem pre2_v (c a b : UInt8) (r : List UInt8) : Lib.hasPrefix (c :: r) (a :: b :: @List.nil UInt8) = decide (c = a ∧ r.head? = some b) := by
 unfold Lib.hasPrefix
 rw [Bool.eq_iff_iff,decide_eq_true_eq]
 cases r with
 | nil => simp [List.isPrefixOf]
 | cons d r =>
  rw [List.isPrefixOf_iff_prefix]
  simp only [List.cons_prefix_cons,List.nil_prefix,and_true,List.head?_cons,Option.some.injEq]
  exact ⟨fun ⟨a,b⟩ => ⟨a.symm,b.symm⟩,fun ⟨a,b⟩ => ⟨a.symm,b.symm⟩⟩
theorem take_all (s : List UInt8) : List.take (I s.length).toNat s = s := by rw [I_nat]; exact List.take_length
theorem space_v (s : List UInt8) (hs : s.length ≤ 1000000) : ∀ u : List UInt8,∀ k,s.drop k = u → k ≤ s.length → Tryz.m30_2 s (I k) = some ((I (s.length - (Sc.skipL u).1.length),((Sc.skipL u).2,())),()) := by
 have hin : ∀ n : Nat,n ≤ 2000000 → inR (I n) = true := fun n hn => by rw [inR_iff]; simp only [I_eq]; omega
 have base : ∀ u k,s.drop k = u → k ≤ s.length → u.length = s.length - k := fun u k h _ => by rw [← h,List.length_drop]
 refine Sc.skip_ind ?_ ?_ ?_ ?_ ?_ ?_
 ·intro k h hk
  have hl := base _ _ h hk
  have : k = s.length := by simp only [List.length_nil] at hl; omega
  subst this
  rw [Tryz.m30_2_eq,Sc.skip_nil]
  simp only [I_nlt,decide_false,Bool.false_eq_true,if_false,List.length_nil,Nat.sub_zero]
 all_goals intro c r
 ·intro hw ih k h hk
  have hlt := drop_lt h
  rw [Tryz.m30_2_eq,Sc.skip_ws _ hw]
  simp only [I_lt hlt,I_nn,Int.le_refl,Int.le_of_lt (I_lt hlt),and_self,decide_true,if_true,strAt_v h,byte_v,ws_v,hw,I_s,hin (k + 1) (by omega)]
  exact ih (k + 1) (drop_s h) hlt
 ·rintro hw ⟨rfl,h2⟩ ih k h hk
  have hlt := drop_lt h
  have hd : List.drop (I k).toNat (List.take (I s.length).toNat s) = 47 :: r := by rw [take_all,I_nat,h]
  have hb : (Int.toNat (10 : Int)).toUInt8 = 10 := rfl
  have he : Sc.eol (47 :: r) = Sc.eol r := rfl
  have e1 : Lib.hasPrefix (47 :: r) (47 :: 47 :: @List.nil UInt8) = true := by rw [pre2_v,h2]; rfl
  rw [Tryz.m30_2_eq,Sc.skip_line hw ⟨rfl,h2⟩]
  simp only [I_lt hlt,I_nn,Int.le_refl,Int.le_of_lt (I_lt hlt),and_self,decide_true,if_true,strAt_v h,byte_v,ws_v,hw,hd,e1,Bool.false_eq_true,if_false,hb]
  rcases eol_ib (47 :: r) with ⟨g1,g2⟩ | ⟨n,g1,g2,g3⟩
  ·rw [he] at g2
   simp only [g1,decide_true,if_true,g2,Sc.skip_nil,List.length_nil,Nat.sub_zero]
  ·rw [he] at g2
   have hnn : ¬ ((n : Int) < 0) := by omega
   have hx : I k + (n : Int) = I (k + n) := by simp only [I_eq]; omega
   have hl := base _ _ h hk
   simp only [g1,hnn,decide_false,Bool.false_eq_true,if_false,hx,hin (k + n) (by omega),if_true]
   exact ih (k + n) (by rw [← List.drop_drop,h]; exact g2.symm) (by omega)
 ·rintro hw ⟨rfl,h2⟩ h3 k h hk
  have hlt := drop_lt h
  have hl := base _ _ h hk
  cases r with
  | nil => simp at h2
  | cons b r =>
  simp only [List.head?_cons,Option.some.injEq] at h2
  subst h2
  have hd : List.drop (I k).toNat (List.take (I s.length).toNat s) = 47 :: 42 :: r := by rw [take_all,I_nat,h]
  have hd2 : List.drop (Int.toNat (2 : Int)) (List.take (I ((47 : UInt8) :: 42 :: r).length).toNat (47 :: 42 :: r)) = r := by rw [take_all]; rfl
  have hl2 : (2 : Int) ≤ I ((47 : UInt8) :: 42 :: r).length := by simp only [I_eq,List.length_cons]; omega
  have ho : okS r = true := decide_eq_true (by simp only [List.length_cons] at hl; omega)
  have e1 : Lib.hasPrefix (47 :: 42 :: r) (47 :: 47 :: @List.nil UInt8) = false := by rw [pre2_v]; rfl
  have e2 : Lib.hasPrefix (47 :: 42 :: r) (47 :: 42 :: @List.nil UInt8) = true := by rw [pre2_v]; rfl
  have g4 : (0 : Int) ≤ 2 := by decide
  rw [Tryz.m30_2_eq,Sc.skip_bad hw ⟨rfl,rfl⟩ h3]
  simp only [I_lt hlt,I_nn,Int.le_refl,Int.le_of_lt (I_lt hlt),and_self,decide_true,if_true,strAt_v h,byte_v,ws_v,hw,hd,e1,e2,Bool.false_eq_true,if_false,hd2,hl2,ho,g4]
  rcases eoc_ix r with ⟨g1,g2⟩ | ⟨n,g1,g2,g3⟩
  ·simp only [g1,decide_true,if_true,hl,show s.length - (s.length - k) = k by omega]
  ·simp only [List.tail_cons] at h3; rw [h3] at g2; cases g2
 ·rintro x hw ⟨rfl,h2⟩ h3 ih k h hk
  have hlt := drop_lt h
  have hl := base _ _ h hk
  cases r with
  | nil => simp at h2
  | cons b r =>
  simp only [List.head?_cons,Option.some.injEq] at h2
  subst h2
  have hd : List.drop (I k).toNat (List.take (I s.length).toNat s) = 47 :: 42 :: r := by rw [take_all,I_nat,h]
  have hd2 : List.drop (Int.toNat (2 : Int)) (List.take (I ((47 : UInt8) :: 42 :: r).length).toNat (47 :: 42 :: r)) = r := by rw [take_all]; rfl
  have hl2 : (2 : Int) ≤ I ((47 : UInt8) :: 42 :: r).length := by simp only [I_eq,List.length_cons]; omega
  have ho : okS r = true := decide_eq_true (by simp only [List.length_cons] at hl; omega)
  have e1 : Lib.hasPrefix (47 :: 42 :: r) (47 :: 47 :: @List.nil UInt8) = false := by rw [pre2_v]; rfl
  have e2 : Lib.hasPrefix (47 :: 42 :: r) (47 :: 42 :: @List.nil UInt8) = true := by rw [pre2_v]; rfl
  have g4 : (0 : Int) ≤ 2 := by decide
  rw [Tryz.m30_2_eq,Sc.skip_com hw ⟨rfl,rfl⟩ h3]
  simp only [I_lt hlt,I_nn,Int.le_refl,Int.le_of_lt (I_lt hlt),and_self,decide_true,if_true,strAt_v h,byte_v,ws_v,hw,hd,e1,e2,Bool.false_eq_true,if_false,hd2,hl2,ho,g4]
  rcases eoc_ix r with ⟨g1,g2⟩ | ⟨n,g1,g2,g3⟩
  ·simp only [List.tail_cons] at h3; rw [h3] at g2; cases g2
  ·simp only [List.tail_cons] at h3
   rw [h3] at g2
   simp only [Option.some.injEq] at g2
   have hnn : ¬ ((n : Int) < 0) := by omega
   have hx0 : (n : Int) + 4 = I (n + 4) := by simp only [I_eq]; omega
   have hx : I k + I (n + 4) = I (k + (n + 4)) := by simp only [I_eq]; omega
   simp only [List.length_cons] at hl
   simp only [g1,hnn,decide_false,Bool.false_eq_true,if_false,hx0,hx,hin (n + 4) (by omega),hin (k + (n + 4)) (by omega),if_true]
   refine ih (k + (n + 4)) ?_ (by omega)
   rw [← List.drop_drop,h,g2]
   rfl
 ·intro hw h2 h3 k h hk
  have hlt := drop_lt h
  have hd : List.drop (I k).toNat (List.take (I s.length).toNat s) = c :: r := by rw [take_all,I_nat,h]
  have hl := base _ _ h hk
  rw [Tryz.m30_2_eq,Sc.skip_not hw h2 h3]
  simp only [I_lt hlt,I_nn,Int.le_refl,Int.le_of_lt (I_lt hlt),and_self,decide_true,if_true,strAt_v h,byte_v,ws_v,hw,hd,pre2_v,h2,h3,Bool.false_eq_true,if_false,decide_false,hl,show s.length - (s.length - k) = k by omega]
theorem spaces_v (s : List UInt8) (hs : s.length ≤ 1000000) : Tryz.m30 s = some ((I (s.length - (Sc.skipL s).1.length),((Sc.skipL s).2,())),()) := by
 rw [Tryz.m30_eq]
 exact space_v s hs s 0 rfl (Nat.zero_le _)
theorem run_v (s : List UInt8) (hs : s.length ≤ 1000000) : ∀ (u : List UInt8) k,s.drop k = u → k ≤ s.length → Tryz.m50_2 s (I k) = some ((I (k + (u.takeWhile Sc.aln).length),()),())
 | [],k,h,hk => by
  have hl : 0 = s.length - k := by rw [← List.length_drop,h]; rfl
  have : k = s.length := by omega
  subst this
  rw [Tryz.m50_2_eq]
  simp only [I_nlt,decide_false,Bool.false_eq_true,if_false,List.takeWhile_nil,List.length_nil,Nat.add_zero]
 | c :: r,k,h,hk => by
  have hlt := drop_lt h
  have hin : inR (I (k + 1)) = true := by rw [inR_iff]; simp only [I_eq]; omega
  have ih := run_v s hs r (k + 1) (drop_s h) hlt
  rw [Tryz.m50_2_eq,List.takeWhile_cons]
  simp only [I_lt hlt,I_nn,and_self,decide_true,if_true,strAt_v h,let_v,dig_v,Option.bind,I_s,hin]
  cases h1 : Sc.letB c with
  | true =>
   simp only [Sc.aln,h1,Bool.true_or,if_true,List.length_cons]
   rw [ih]; simp only [Nat.add_assoc,Nat.add_comm 1]
  | false =>
   cases h2 : Sc.digB c with
   | true =>
    simp only [Sc.aln,h1,h2,Bool.false_or,Bool.false_eq_true,if_false,if_true,List.length_cons]
    rw [ih]; simp only [Nat.add_assoc,Nat.add_comm 1]
   | false => simp only [Sc.aln,h1,h2,Bool.or_self,Bool.false_eq_true,if_false,List.length_nil,Nat.add_zero]
end Go.Proofs.Law
/- The program's numbers, bytes between quotes and signs are the plain ones. -/
namespace Go.Proofs.Law
open Go Go.En Go.Proofs
theorem byte_all {p : UInt8 → Prop} (h : ∀ n : Fin 256,p (UInt8.ofNat n.val)) (c : UInt8) : p c := by
 have := h ⟨c.toNat,c.toNat_lt⟩
 simpa using this
def hexT : List UInt8 := [48,49,50,51,52,53,54,55,56,57,97,98,99,100,101,102]
theorem hex_ib (c : UInt8) (h : Sc.aln c = true) : Lib.indexByte hexT (Lib.lowerB c) = if Sc.hexB c = 99 then -1 else (Sc.hexB c : Int) := by
 refine byte_all (p := fun c => Sc.aln c = true → Lib.indexByte hexT (Lib.lowerB c) = if Sc.hexB c = 99 then -1 else (Sc.hexB c : Int)) ?_ c h
 decide +kernel
theorem hex_16 (c : UInt8) : Sc.hexB c < 16 ∨ Sc.hexB c = 99 := by
 refine byte_all (p := fun c => Sc.hexB c < 16 ∨ Sc.hexB c = 99) ?_ c
 decide +kernel
theorem aln_128 (c : UInt8) (h : Sc.aln c = true) : c.toNat < 128 := by
 refine byte_all (p := fun c => Sc.aln c = true → c.toNat < 128) ?_ c h
 decide +kernel
theorem esc_v (c : UInt8) : mlookI (mputI (mputI (mputI (mputI (mputI (@List.nil (Int × Int)) (110 : Int) (10 : Int)) (116 : Int) (9 : Int)) (48 : Int) (0 : Int)) (92 : Int) (92 : Int)) (39 : Int) (39 : Int)) (c.toNat : Int) = (Sc.escB c).map fun n => (n : Int) := by
 refine byte_all (p := fun c => mlookI (mputI (mputI (mputI (mputI (mputI (@List.nil (Int × Int)) (110 : Int) (10 : Int)) (116 : Int) (9 : Int)) (48 : Int) (0 : Int)) (92 : Int) (92 : Int)) (39 : Int) (39 : Int)) (c.toNat : Int) = (Sc.escB c).map fun n => (n : Int)) ?_ c
 decide +kernel
def numR (m : Option Nat) : Spec.D En.Dop.D4 ⟨[.fd (.int .i64),.fd .bool],[]⟩ := match m with
 | some v => (((v : Int),(true,())),())
 | none => (((0 : Int),(false,())),())
theorem take_one {s : List UInt8} {k : Nat} {c : UInt8} {r : List UInt8} (h : s.drop k = c :: r) : List.drop (I k).toNat (List.take (I (k + 1)).toNat s) = [c] := by
 rw [I_nat,I_nat,List.drop_take,h,Nat.add_sub_cancel_left]
 rfl
theorem digits_v (s : List UInt8) (hs : s.length ≤ 1000000) (hne : s ≠ []) (base : Nat) (hb : base = 10 ∨ base = 16) : ∀ (u : List UInt8) (k n : Nat),s.drop k = u → k ≤ s.length → (∀ c ∈ u,Sc.aln c = true) → n ≤ 4294967295 → Tryz.m53_9 s (base : Int) (n : Int) (I s.length) (I k) = some (numR (Sc.digits base n u))
 | [],k,n,h,hk,ha,hn => by
  have hl : 0 = s.length - k := by rw [← List.length_drop,h]; rfl
  have : k = s.length := by omega
  subst this
  rw [Tryz.m53_9_eq]
  simp only [I_nlt,decide_false,Bool.false_eq_true,if_false,hne,Bool.not_false,Sc.digits,numR]
 | c :: r,k,n,h,hk,ha,hn => by
  have hlt := drop_lt h
  have hin : inR (I (k + 1)) = true := by rw [inR_iff]; simp only [I_eq]; omega
  have hc := ha c List.mem_cons_self
  have ho : okL [c] = true := by
   unfold okL okS ascii
   simp [aln_128 c hc]
  have h1 : I k ≤ I (k + 1) := by simp only [I_eq]; omega
  have h2 : I (k + 1) ≤ I s.length := by simp only [I_eq]; omega
  have h3 : (0 : Int) < I ([Lib.lowerB c] : List UInt8).length := by show (0 : Int) < ((1 : Nat) : Int); decide
  have h4 : strAt [Lib.lowerB c] 0 = ((Lib.lowerB c).toNat : Int) := rfl
  have h5 : Lib.toLowerA [c] = [Lib.lowerB c] := rfl
  have hx := hex_ib c hc
  have hT : (48 : UInt8) :: (49 : UInt8) :: (50 : UInt8) :: (51 : UInt8) :: (52 : UInt8) :: (53 : UInt8) :: (54 : UInt8) :: (55 : UInt8) :: (56 : UInt8) :: (57 : UInt8) :: (97 : UInt8) :: (98 : UInt8) :: (99 : UInt8) :: (100 : UInt8) :: (101 : UInt8) :: (102 : UInt8) :: @List.nil UInt8 = hexT := rfl
  rw [Tryz.m53_9_eq]
  simp only [I_lt hlt,I_nn,I_s,h1,h2,h3,h4,h5,take_one h,hin,ho,byte_v,hT,and_self,decide_true,if_true,Int.le_refl]
  rcases hex_16 c with h6 | h6
  ·rw [if_neg (by omega)] at hx
   have g1 : ¬ ((Sc.hexB c : Int) < 0) := by omega
   simp only [hx,g1,decide_false,Bool.false_eq_true,if_false,Sc.digits]
   by_cases g2 : base ≤ Sc.hexB c
   ·have g3 : (base : Int) ≤ (Sc.hexB c : Int) := by omega
    simp only [g2,g3,decide_true,if_true,numR]
   ·have g3 : ¬ (base : Int) ≤ (Sc.hexB c : Int) := by omega
    have hm : n * base ≤ 4294967295 * 16 := by
     rcases hb with rfl | rfl <;> omega
    have e1 : (n : Int) * (base : Int) = ((n * base : Nat) : Int) := by simp
    have e2 : ((n * base : Nat) : Int) + (Sc.hexB c : Int) = ((n * base + Sc.hexB c : Nat) : Int) := by simp
    have i1 : inR ((n * base : Nat) : Int) = true := by rw [inR_iff]; omega
    have i2 : inR ((n * base + Sc.hexB c : Nat) : Int) = true := by rw [inR_iff]; omega
    simp only [g2,g3,decide_false,Bool.false_eq_true,if_false,e1,e2,i1,i2,if_true]
    by_cases g4 : 4294967295 < n * base + Sc.hexB c
    ·have g5 : (4294967295 : Int) < ((n * base + Sc.hexB c : Nat) : Int) := by omega
     simp only [g4,g5,decide_true,if_true,numR]
    ·have g5 : ¬ (4294967295 : Int) < ((n * base + Sc.hexB c : Nat) : Int) := by omega
     simp only [g4,g5,decide_false,Bool.false_eq_true,if_false]
     exact digits_v s hs hne base hb r (k + 1) _ (drop_s h) hlt (fun d hd => ha d (List.mem_cons_of_mem _ hd)) (by omega)
  ·rw [if_pos h6] at hx
   have g2 : base ≤ Sc.hexB c := by rcases hb with rfl | rfl <;> omega
   simp only [hx,Sc.digits,g2,if_true]
   rfl
theorem digits_0 (base : Int) : Tryz.m53_9 [] base 0 (I ([] : List UInt8).length) 0 = some (numR none) := by
 rw [Tryz.m53_9_eq]
 have e : I ([] : List UInt8).length = 0 := rfl
 simp only [e,Int.lt_irrefl,decide_false,Bool.false_eq_true,if_false,decide_true,Bool.not_true,numR]
theorem base_v (s : List UInt8) (hs : s.length ≤ 1000000) (ha : ∀ c ∈ s,Sc.aln c = true) : some (numR (if (Sc.baseL s).2 = [] then none else Sc.digits (Sc.baseL s).1 0 (Sc.baseL s).2)) =
  if Lib.hasPrefix s (48 :: 120 :: @List.nil UInt8) = true then Tryz.m53_9 (s.drop 2) 16 0 (I (s.drop 2).length) 0
  else if Lib.hasPrefix s (48 :: 88 :: @List.nil UInt8) = true then Tryz.m53_9 (s.drop 2) 16 0 (I (s.drop 2).length) 0
  else Tryz.m53_9 s 10 0 (I s.length) 0 := by
 have key : ∀ (u : List UInt8) (b : Nat),u.length ≤ 1000000 → (∀ c ∈ u,Sc.aln c = true) → (b = 10 ∨ b = 16) → some (numR (if u = [] then none else Sc.digits b 0 u)) = Tryz.m53_9 u (b : Int) 0 (I u.length) 0 := by
  intro u b h1 h2 h3
  by_cases h : u = []
  ·subst h; rw [if_pos rfl]; exact (digits_0 b).symm
  ·rw [if_neg h]; exact (digits_v u h1 h b h3 u 0 0 rfl (Nat.zero_le _) h2 (by omega)).symm
 have hd : (s.drop 2).length ≤ 1000000 := by rw [List.length_drop]; omega
 have hda : ∀ c ∈ s.drop 2,Sc.aln c = true := fun c hc => ha c (List.mem_of_mem_drop hc)
 unfold Sc.baseL Lib.hasPrefix
 by_cases h1 : ([48,120] : List UInt8).isPrefixOf s = true
 ·simp only [h1,true_or,if_true]
  exact key _ 16 hd hda (.inr rfl)
 ·by_cases h2 : ([48,88] : List UInt8).isPrefixOf s = true
  ·simp only [h1,h2,false_or,if_true,Bool.false_eq_true,if_false]
   exact key _ 16 hd hda (.inr rfl)
  ·simp only [h1,h2,false_or,Bool.false_eq_true,if_false]
   exact key _ 10 hs ha (.inl rfl)
theorem pre_len {s : List UInt8} {a b : UInt8} (h : Lib.hasPrefix s (a :: b :: @List.nil UInt8) = true) : (2 : Int) ≤ I s.length := by
 obtain ⟨t,ht⟩ := List.isPrefixOf_iff_prefix.1 h
 rw [← ht]
 simp only [I_eq,List.length_append,List.length_cons]
 omega
theorem last_at (p : List UInt8) (c : UInt8) : strAt (p ++ [c]) (I (p ++ [c]).length - 1) = (c.toNat : Int) := by
 have e : I (p ++ [c]).length - 1 = I p.length := by simp only [I_eq,List.length_append,List.length_cons,List.length_nil]; omega
 rw [e,strAt_v (c := c) (r := [])]
 simp
theorem last_take (p : List UInt8) (c : UInt8) : List.drop (Int.toNat (0 : Int)) (List.take (I (p ++ [c]).length - 1).toNat (p ++ [c])) = p := by
 have e : I (p ++ [c]).length - 1 = I p.length := by simp only [I_eq,List.length_append,List.length_cons,List.length_nil]; omega
 rw [e,I_nat,List.take_left]
 rfl
theorem value_v (s : List UInt8) (hs : s.length ≤ 1000000) (hne : s ≠ []) (ha : ∀ c ∈ s,Sc.aln c = true) : Tryz.m53 s = some (numR (Sc.valL s)) := by
 obtain ⟨p,c,rfl⟩ : ∃ p c,s = p ++ [c] := ⟨s.dropLast,s.getLast hne,(List.dropLast_concat_getLast hne).symm⟩
 have hlen : I (p ++ [c]).length - 1 = I p.length := by simp only [I_eq,List.length_append,List.length_cons,List.length_nil]; omega
 have i1 : inR (I (p ++ [c]).length - 1) = true := by rw [hlen,inR_iff]; simp only [I_eq,List.length_append] at hs ⊢; omega
 have c1 : (0 : Int) ≤ I (p ++ [c]).length - 1 := by rw [hlen]; exact I_nn _
 have c2 : I (p ++ [c]).length - 1 < I (p ++ [c]).length := by omega
 have c3 : I (p ++ [c]).length - 1 ≤ I (p ++ [c]).length := by omega
 have hp : p.length ≤ 1000000 := by simp only [List.length_append] at hs; omega
 have hpa : ∀ d ∈ p,Sc.aln d = true := fun d hd => ha d (List.mem_append_left _ hd)
 have key : ∀ (s : List UInt8),s.length ≤ 1000000 → (∀ c ∈ s,Sc.aln c = true) →
   (if Lib.hasPrefix s (48 :: 120 :: @List.nil UInt8) = true then (if (decide ((0 : Int) ≤ (2 : Int) ∧ (2 : Int) ≤ I s.length ∧ True)) = true then Tryz.m53_9 (List.drop (Int.toNat (2 : Int)) (List.take (I s.length).toNat s)) 16 0 (I (List.drop (Int.toNat (2 : Int)) (List.take (I s.length).toNat s)).length) 0 else none)
    else if Lib.hasPrefix s (48 :: 88 :: @List.nil UInt8) = true then (if (decide ((0 : Int) ≤ (2 : Int) ∧ (2 : Int) ≤ I s.length ∧ True)) = true then Tryz.m53_9 (List.drop (Int.toNat (2 : Int)) (List.take (I s.length).toNat s)) 16 0 (I (List.drop (Int.toNat (2 : Int)) (List.take (I s.length).toNat s)).length) 0 else none)
    else Tryz.m53_9 s 10 0 (I s.length) 0) = some (numR (if (Sc.baseL s).2 = [] then none else Sc.digits (Sc.baseL s).1 0 (Sc.baseL s).2)) := by
  intro s h1 h2
  rw [base_v s h1 h2,take_all]
  have g4 : (0 : Int) ≤ 2 := by decide
  split
  ·rename_i h; simp only [pre_len h,g4,and_self,decide_true,if_true]; rfl
  ·split
   ·rename_i h; simp only [pre_len h,g4,and_self,decide_true,if_true]; rfl
   ·rfl
 have e1 : Sc.unU (p ++ [c]) = if c = 117 ∨ c = 85 then p else p ++ [c] := by
  unfold Sc.unU
  simp only [List.getLast?_append,List.getLast?_singleton,Option.some_or,Option.some.injEq,List.dropLast_concat]
 rw [Tryz.m53_eq]
 unfold Sc.valL
 rw [e1]
 have d1 : ((c.toNat : Int) = 117) ↔ c = 117 := by rw [show (117 : Int) = ((117 : Nat) : Int) from rfl,Int.ofNat_inj]; exact toNat_byte c 117 (by decide)
 have d2 : ((c.toNat : Int) = 85) ↔ c = 85 := by rw [show (85 : Int) = ((85 : Nat) : Int) from rfl,Int.ofNat_inj]; exact toNat_byte c 85 (by decide)
 simp only [i1,c1,c2,c3,Int.le_refl,and_self,decide_true,if_true,last_at,last_take,d1,d2]
 by_cases h1 : c = 117
 ·simp only [h1,decide_true,if_true,true_or]
  exact key p hp hpa
 ·by_cases h2 : c = 85
  ·have h1' : ¬ ((85 : UInt8) = 117) := by decide
   simp only [h1',h2,decide_true,decide_false,Bool.false_eq_true,if_false,if_true,or_true]
   exact key p hp hpa
  ·simp only [h1,h2,decide_false,Bool.false_eq_true,if_false,or_self]
   exact key _ hs ha
def chrR (m : Option (Nat × Nat)) : Spec.D En.Dop.D4 ⟨[.fd (.int .i64),.fd (.int .i64)],[]⟩ := match m with
 | some (v,k) => (((v : Int),((k : Int),())),())
 | none => (((0 : Int),((0 : Int),())),())
theorem byte_is (c : UInt8) (n : Nat) (hn : n < 256) : ((c.toNat : Int) = ((n : Nat) : Int)) ↔ c = n.toUInt8 := by
 rw [Int.ofNat_inj]; exact toNat_byte c n hn
theorem inB (c : UInt8) : inR (c.toNat : Int) = true := by
 have := c.toNat_lt
 rw [inR_iff]; omega
theorem char_v (s : List UInt8) : Tryz.m54 s = some (chrR (Sc.charL s)) := by
 rw [Tryz.m54_eq]
 have b92 : ∀ c : UInt8,((c.toNat : Int) = 92) ↔ c = 92 := fun c => byte_is c 92 (by decide)
 have b39 : ∀ c : UInt8,((c.toNat : Int) = 39) ↔ c = 39 := fun c => byte_is c 39 (by decide)
 have b10 : ∀ c : UInt8,((c.toNat : Int) = 10) ↔ c = 10 := fun c => byte_is c 10 (by decide)
 match s with
 | [] => rfl
 | [a] => rfl
 | [a,b] => rfl
 | [x,a,b] =>
  have l3 : I [x,a,b].length = 3 := rfl
  have s1 : strAt [x,a,b] 1 = (a.toNat : Int) := rfl
  have s2 : strAt [x,a,b] 2 = (b.toNat : Int) := rfl
  have n43 : ¬ (4 : Int) ≤ 3 := by decide
  have n33 : (3 : Int) ≤ 3 := by decide
  have n13 : (0 : Int) ≤ 1 ∧ (1 : Int) < 3 := by decide
  have n23 : (0 : Int) ≤ 2 ∧ (2 : Int) < 3 := by decide
  simp only [l3,s1,s2,n43,n33,n13,n23,decide_true,decide_false,Bool.false_eq_true,if_false,if_true,b92,b39,b10,inB]
  simp only [Sc.charL,List.head?_nil,reduceCtorEq,if_false]
  by_cases h1 : a = 92
  ·subst h1; simp [chrR]
  ·by_cases h2 : a = 39
   ·subst h2; simp [chrR]
   ·by_cases h3 : a = 10
    ·subst h3; simp [chrR]
    ·by_cases h4 : b = 39
     ·simp [h1,h2,h3,h4,chrR]
     ·simp [h1,h2,h3,h4,chrR]
 | x :: a :: b :: d :: r =>
  have l4 : I (x :: a :: b :: d :: r).length = I (r.length + 4) := rfl
  have s1 : strAt (x :: a :: b :: d :: r) 1 = (a.toNat : Int) := rfl
  have s2 : strAt (x :: a :: b :: d :: r) 2 = (b.toNat : Int) := rfl
  have s3 : strAt (x :: a :: b :: d :: r) 3 = (d.toNat : Int) := rfl
  have n43 : (4 : Int) ≤ I (r.length + 4) := by simp only [I_eq]; omega
  have n33 : (3 : Int) ≤ I (r.length + 4) := by simp only [I_eq]; omega
  have n13 : (0 : Int) ≤ 1 ∧ (1 : Int) < I (r.length + 4) := by simp only [I_eq]; omega
  have n23 : (0 : Int) ≤ 2 ∧ (2 : Int) < I (r.length + 4) := by simp only [I_eq]; omega
  have n34 : (0 : Int) ≤ 3 ∧ (3 : Int) < I (r.length + 4) := by simp only [I_eq]; omega
  simp only [l4,s1,s2,s3,n43,n33,n13,n23,n34,decide_true,if_true,b92,b39,b10,inB,esc_v]
  simp only [Sc.charL,List.head?_cons,Option.some.injEq]
  by_cases h1 : a = 92
  ·subst h1
   by_cases h2 : d = 39
   ·subst h2
    cases he : Sc.escB b with
    | none => simp [chrR]
    | some v => simp [chrR]
   ·simp [h2,chrR]
  ·by_cases h2 : a = 39
   ·subst h2; simp [chrR]
   ·by_cases h3 : a = 10
    ·subst h3; simp [chrR]
    ·by_cases h4 : b = 39
     ·simp [h1,h2,h3,h4,chrR]
     ·simp [h1,h2,h3,h4,chrR]
theorem signs_v : Tryz.m80 = some ((Sc.signs,()),()) := by rw [Tryz.m80_eq]; rfl
theorem sign_loop (s : List UInt8) (l : List (List UInt8)) (hl : l.length < 1000000) : ∀ (n k : Nat),k + n = l.length → Tryz.m55_2 s l (I l.length) (I k) = some (((((l.drop k).find? fun x => x.isPrefixOf s).getD [],())),())
 | 0,k,e => by
  have e : k = l.length := by omega
  subst e
  rw [Tryz.m55_2_eq,List.drop_eq_nil_of_le (Nat.le_refl _)]
  simp only [I_nlt,decide_false,Bool.false_eq_true,if_false,List.find?_nil,Option.getD_none]
 | n + 1,k,e => by
  have hk : k < l.length := by omega
  have ih := sign_loop s l hl n (k + 1) (by omega)
  have hd : l.drop k = l.getD k [] :: l.drop (k + 1) := by rw [List.drop_eq_getElem_cons hk]; simp [List.getD,hk]
  rw [Tryz.m55_2_eq,hd,List.find?_cons]
  simp only [I_lt hk,hk,I_nn,I_nat,I_s,I_in hk hl,and_self,decide_true,if_true,Lib.hasPrefix]
  cases hp : (l.getD k []).isPrefixOf s with
  | true => simp only [if_true,Option.getD_some]
  | false => simp only [Bool.false_eq_true,if_false]; exact ih
theorem sign_v (s : List UInt8) : Tryz.m55 s = some (((Sc.signL s).getD [],()),()) := by
 rw [Tryz.m55_eq,signs_v]
 simp only [Option.bind]
 exact sign_loop s Sc.signs (by decide) Sc.signs.length 0 (Nat.zero_add _)
def oneR (m : Sc.Res) : Spec.D En.Dop.D4 ⟨[.st 4,.fd (.int .i64)],[]⟩ := match m with
 | .err e => ((⟨0,[],0,0⟩,(e,())),())
 | .tok k t n => ((⟨k,t,(n : Int),0⟩,((0 : Int),())),())
theorem token_v (k n : Int) (m : Nat) (s : List UInt8) (h : m ≤ s.length) : Tryz.m48 k n (I m) s = some ((⟨k,s.take m,n,0⟩,((0 : Int),())),((s,()),())) := by
 rw [Tryz.m48_eq]
 have h1 : I m ≤ I s.length := by simp only [I_eq]; omega
 simp only [I_nn,h1,Int.le_refl,and_self,decide_true,if_true,I_nat]
 rfl
theorem one_v (c : UInt8) (r : List UInt8) (hs : (c :: r).length ≤ 100000) : Tryz.m31 (c :: r) = some (oneR (Sc.tokL (c :: r))) := by
 have h0 : strAt (c :: r) 0 = (c.toNat : Int) := rfl
 have hl : (0 : Int) < I (c :: r).length := by simp only [I_eq,List.length_cons]; omega
 have hr := run_v (c :: r) (by omega) (c :: r) 0 rfl (Nat.zero_le _)
 have hr' : Tryz.m50 (c :: r) = some ((I ((c :: r).takeWhile Sc.aln).length,()),()) := by
  rw [Tryz.m50_eq]
  have e0 : I 0 = 0 := rfl
  rw [e0] at hr
  rw [hr,Nat.zero_add]
 have htl : ((c :: r).takeWhile Sc.aln).length ≤ (c :: r).length := (List.takeWhile_prefix _).length_le
 have htt : List.drop (Int.toNat (0 : Int)) (List.take (I ((c :: r).takeWhile Sc.aln).length).toNat (c :: r)) = (c :: r).takeWhile Sc.aln := by
  rw [I_nat]
  exact (List.prefix_iff_eq_take.1 (List.takeWhile_prefix _)).symm
 have hti : I ((c :: r).takeWhile Sc.aln).length ≤ I (c :: r).length := by simp only [I_eq]; omega
 have htk : (c :: r).take ((c :: r).takeWhile Sc.aln).length = (c :: r).takeWhile Sc.aln := (List.prefix_iff_eq_take.1 (List.takeWhile_prefix _)).symm
 have ta := token_v
 rw [Tryz.m31_eq]
 simp only [Int.le_refl,hl,I_nn,and_self,decide_true,if_true,h0,let_v,dig_v,hr',Option.bind,hti,htt]
 cases h1 : Sc.letB c with
 | true =>
  simp only [if_true,is_v _ (Nat.le_trans htl hs),Sc.tokL,h1,wordsL_eq]
  by_cases hw : (c :: r).takeWhile Sc.aln ∈ Sc.words
  ·simp only [hw,decide_true,if_true,token_v _ _ _ _ htl,htk]; rfl
  ·simp only [hw,decide_false,Bool.false_eq_true,if_false,token_v _ _ _ _ htl,htk]; rfl
 | false =>
  simp only [Bool.false_eq_true,if_false]
  cases h2 : Sc.digB c with
  | true =>
   have hne : (c :: r).takeWhile Sc.aln ≠ [] := by
    rw [List.takeWhile_cons,Sc.aln_of_dig h2]; simp
   simp only [if_true,value_v _ (Nat.le_trans htl (by omega)) hne (fun d hd => Sc.tw_all hd),Sc.tokL,h1,h2,Bool.false_eq_true,if_false]
   cases hv : Sc.valL ((c :: r).takeWhile Sc.aln) with
   | none => rfl
   | some v => simp only [numR,Bool.not_true,Bool.false_eq_true,if_false,token_v _ _ _ _ htl,htk]; rfl
  | false =>
   simp only [Bool.false_eq_true,if_false,Sc.tokL,h1,h2]
   by_cases h3 : c = 39
   ·subst h3
    have b39 : (((39 : UInt8).toNat : Int) = 39) := rfl
    simp only [b39,decide_true,if_true,char_v]
    cases hv : Sc.charL (39 :: r) with
    | none => rfl
    | some p =>
     obtain ⟨v,k⟩ := p
     have hk : 0 < k ∧ k ≤ (39 :: r).length := by
      rcases Sc.char_is hv with ⟨a,x,e1,_,_,_,_,e2⟩ | ⟨b,x,e1,_,e2⟩
      ·subst e1; subst e2; simp
      ·subst e1; subst e2; simp
     have hk' : (0 : Int) < (k : Int) := by omega
     have t := token_v 3 (v : Int) k (39 :: r) hk.2
     simp only [I_eq] at t
     simp only [chrR,hk',decide_true,if_true,t]
     rfl
   ·have b39 : ¬ ((c.toNat : Int) = 39) := fun e => h3 ((byte_is c 39 (by decide)).1 e)
    simp only [b39,h3,decide_false,Bool.false_eq_true,if_false,sign_v]
    cases hv : Sc.signL (c :: r) with
    | none => rfl
    | some x =>
     obtain ⟨g1,y,g2⟩ := Sc.sign_is hv
     have hx := (Sc.signs_ne x g1).1
     have hxl : x.length ≤ (c :: r).length := by rw [g2]; simp
     have hxt : (c :: r).take x.length = x := by rw [g2]; exact List.take_left
     simp only [Option.getD_some,hx,decide_false,Bool.not_false,if_true,token_v _ _ _ _ hxl,hxt]
     rfl
end Go.Proofs.Law
/- The program's Scan is the plain one. -/
namespace Go.Proofs.Law
open Go Go.En Go.Proofs
def scanR (out : List En.Dop.Tok) (m : Sc.Scn) : Spec.D En.Dop.D4 ⟨[.own 4 32,.fd (.int .i64),.fd (.int .i64)],[]⟩ := match m with
 | .err a e => (([],((a : Int),(e,()))),())
 | .ok l => ((out ++ l,((0 : Int),((0 : Int),()))),())
theorem scanR_cons (out : List En.Dop.Tok) (t : En.Dop.Tok) : ∀ m : Sc.Scn,scanR out (m.cons t) = scanR (out ++ [t]) m
 | .err _ _ => rfl
 | .ok l => by simp [scanR,Sc.Scn.cons]
theorem room_v (n : Nat) (h : n ≤ 1000000) : room 40 n = true := by
 unfold room
 exact decide_eq_true (by omega)
theorem tokL_err {c : UInt8} {r : List UInt8} {e : Int} (h : Sc.tokL (c :: r) = .err e) : e = 2 ∨ e = 3 := by
 simp only [Sc.tokL] at h
 repeat' split at h
 all_goals first
  | (injection h with h; omega)
  | cases h
theorem scan_loop : ∀ u cnt,∀ (s : List UInt8) (out : List En.Dop.Tok) (k : Nat),s.length ≤ 100000 → s.drop k = u → k ≤ s.length → out.length = cnt → cnt ≤ 8192 → Tryz.m13_5 s out (I k) = some (scanR out (Sc.scanL k cnt u)) := by
 have pos : ∀ (s u x : List UInt8) (k : Nat),s.drop k = u → k ≤ s.length → x.length ≤ u.length → k + (u.length - x.length) = s.length - x.length := fun s u x k h hk hx => by
  have hl : u.length = s.length - k := by rw [← h,List.length_drop]
  omega
 have hin : ∀ n : Nat,n ≤ 2000000 → inR (I n) = true := fun n hn => by rw [inR_iff]; simp only [I_eq]; omega
 have add : ∀ a b : Nat,I a + I b = I (a + b) := fun a b => by simp only [I_eq]; omega
 have le : ∀ a b : Nat,a ≤ b → I a ≤ I b := fun a b h => by simp only [I_eq]; omega
 have one : ∀ t : En.Dop.Tok,(t :: @List.nil En.Dop.Tok).length = 1 := fun _ => rfl
 have sp : ∀ (s u : List UInt8) (k : Nat),s.length ≤ 100000 → s.drop k = u → Tryz.m30 (List.drop (I k).toNat (List.take (I s.length).toNat s)) = some ((I (u.length - (Sc.skipL u).1.length),((Sc.skipL u).2,())),()) := fun s u k hs h => by
  rw [take_all,I_nat,h]
  exact spaces_v u (by rw [← h,List.length_drop]; omega)
 have dr : ∀ (s u p x : List UInt8) (k : Nat),s.drop k = u → u = p ++ x → s.drop (k + (u.length - x.length)) = x := fun s u p x k h e => by
  rw [← List.drop_drop,h,e]
  simp
 refine Sc.scan_ind ?_ ?_ ?_ ?_ ?_
 ·intro cnt u x hx s out k hs h hk ho hc
  have hle := Sc.skipL_le u
  rw [hx] at hle
  have hl : u.length = s.length - k := by rw [← h,List.length_drop]
  rw [Tryz.m13_5_eq,Sc.scan_bad _ _ hx,sp s u k hs h,hx]
  simp only [I_nn,le _ _ hk,Int.le_refl,and_self,decide_true,if_true,Option.bind,add,hin (k + (u.length - x.length)) (by omega),Bool.not_false,scanR]
 ·intro cnt u hx s out k hs h hk ho hc
  have hl : u.length = s.length - k := by rw [← h,List.length_drop]
  have e : k + u.length = s.length := by omega
  rw [Tryz.m13_5_eq,Sc.scan_end _ _ hx,sp s u k hs h,hx]
  simp only [I_nn,le _ _ hk,Int.le_refl,and_self,decide_true,if_true,Option.bind,add,List.length_nil,Nat.sub_zero,e,hin s.length (by omega),Bool.not_true,Bool.false_eq_true,if_false,one,andC,room_v (out.length + 1) (by omega),scanR,Sc.fin]
 ·intro cnt u c r e hx ht s out k hs h hk ho hc
  have hle := Sc.skipL_le u
  rw [hx] at hle
  have hl : u.length = s.length - k := by rw [← h,List.length_drop]
  obtain ⟨p,hp⟩ := Sc.skip_suf u
  rw [hx] at hp
  simp only at hp hle
  have hd := dr s u p _ k h hp
  have hlt := drop_lt hd
  have hne : ¬ I (k + (u.length - (c :: r).length)) = I s.length := by simp only [I_eq]; omega
  have ho1 := one_v c r (by simp only [List.length_cons] at hle ⊢; omega)
  rw [ht] at ho1
  have hee : ¬ e = 0 := by rcases tokL_err ht with rfl | rfl <;> decide
  have hcr : List.drop (I (k + (u.length - (c :: r).length))).toNat (List.take (I s.length).toNat s) = c :: r := by rw [take_all,I_nat,hd]
  rw [Tryz.m13_5_eq,Sc.scan_err _ _ hx ht,sp s u k hs h,hx]
  simp only [I_nn,le _ _ hk,Int.le_refl,and_self,decide_true,if_true,Option.bind,add,hin (k + (u.length - (c :: r).length)) (by omega),Bool.not_true,Bool.false_eq_true,if_false,hne,decide_false,le _ _ (Nat.le_of_lt hlt),hcr,ho1,oneR,hee,Bool.not_false,scanR]
 ·intro cnt u c r kk t n hx ht hc2 s out k hs h hk ho hc
  have hle := Sc.skipL_le u
  rw [hx] at hle
  have hl : u.length = s.length - k := by rw [← h,List.length_drop]
  obtain ⟨p,hp⟩ := Sc.skip_suf u
  rw [hx] at hp
  simp only at hp hle
  have hd := dr s u p _ k h hp
  have hlt := drop_lt hd
  have hne : ¬ I (k + (u.length - (c :: r).length)) = I s.length := by simp only [I_eq]; omega
  have ho1 := one_v c r (by simp only [List.length_cons] at hle ⊢; omega)
  rw [ht] at ho1
  have hcr : List.drop (I (k + (u.length - (c :: r).length))).toNat (List.take (I s.length).toNat s) = c :: r := by rw [take_all,I_nat,hd]
  have h8 : I out.length = 8192 := by simp only [I_eq]; omega
  rw [Tryz.m13_5_eq,Sc.scan_full _ hx ht hc2,sp s u k hs h,hx]
  simp only [I_nn,le _ _ hk,Int.le_refl,and_self,decide_true,if_true,Option.bind,add,hin (k + (u.length - (c :: r).length)) (by omega),Bool.not_true,Bool.false_eq_true,if_false,hne,decide_false,le _ _ (Nat.le_of_lt hlt),hcr,ho1,oneR,h8,scanR]
 ·intro cnt u c t x kk n hx ht hc2 ih s out k hs h hk ho hc
  have hle := Sc.skipL_le u
  rw [hx] at hle
  have hl : u.length = s.length - k := by rw [← h,List.length_drop]
  obtain ⟨p,hp⟩ := Sc.skip_suf u
  rw [hx] at hp
  simp only at hp hle
  have hd := dr s u p _ k h hp
  have hlt := drop_lt hd
  have hne : ¬ I (k + (u.length - (c :: (t ++ x)).length)) = I s.length := by simp only [I_eq]; omega
  have ho1 := one_v c (t ++ x) (by omega)
  rw [ht] at ho1
  have hcr : List.drop (I (k + (u.length - (c :: (t ++ x)).length))).toNat (List.take (I s.length).toNat s) = c :: (t ++ x) := by rw [take_all,I_nat,hd]
  have h8 : ¬ I out.length = 8192 := by simp only [I_eq]; omega
  have hx2 : s.drop (k + (u.length - (c :: (t ++ x)).length) + (c :: t).length) = x := by
   rw [← List.drop_drop,hd]
   show (c :: t ++ x).drop (c :: t).length = x
   exact List.drop_left
  have hx3 : (c :: (t ++ x)).length = (c :: t).length + x.length := by simp only [List.length_cons,List.length_append]; omega
  rw [Tryz.m13_5_eq,Sc.scan_tok _ hx ht hc2,Sc.drop_tok,scanR_cons,sp s u k hs h,hx]
  simp only [I_nn,le _ _ hk,Int.le_refl,and_self,decide_true,if_true,Option.bind,add,hin (k + (u.length - (c :: (t ++ x)).length)) (by omega),Bool.not_true,Bool.false_eq_true,if_false,hne,decide_false,le _ _ (Nat.le_of_lt hlt),hcr,ho1,oneR,h8,one,andC,room_v (out.length + 1) (by omega),hin (k + (u.length - (c :: (t ++ x)).length) + (c :: t).length) (by omega)]
  exact ih (cnt + 1) s (out ++ [_]) _ hs hx2 (by omega) (by rw [List.length_append]; show out.length + 1 = _; omega) (by omega)
def scanA (s : List UInt8) : Sc.Scn := if 32768 < s.length then .err 0 4 else Sc.scanL 0 0 s
theorem scan_v (s : List UInt8) : Tryz.m13 s = some (scanR [] (scanA s)) := by
 rw [Tryz.m13_eq]
 unfold scanA
 by_cases h : 32768 < s.length
 ·have h' : (32768 : Int) < I s.length := by simp only [I_eq]; omega
  simp only [h,h',decide_true,if_true,scanR]
  rfl
 ·have h' : ¬ (32768 : Int) < I s.length := by simp only [I_eq]; omega
  simp only [h,h',decide_false,Bool.false_eq_true,if_false]
  exact scan_loop s 0 s [] 0 (by omega) rfl (Nat.zero_le _) rfl (by omega)
end Go.Proofs.Law
