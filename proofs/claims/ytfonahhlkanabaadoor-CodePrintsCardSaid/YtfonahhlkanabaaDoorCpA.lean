/-
  A function's text, plain: it tells what it is of.
-/
import Derived.Test.YtfonahhlkanabaaDoorDat
import Derived.Test.YtfonahhlkanabaaDoorQt
import Derived.Lib.Join
namespace Go.Proofs.Law
open Go Go.Lib Go.En

theorem num_next {a b : Int} {x y : List UInt8} (h : itoa a ++ 32 :: x = itoa b ++ 32 :: y) : a = b ∧ x = y := by
  obtain ⟨h1, h2⟩ := split_sep 32 (fun c hc => by have := (itoa_char a c hc).1; rintro rfl; exact this rfl) (fun c hc => by have := (itoa_char b c hc).1; rintro rfl; exact this rfl) h
  exact ⟨itoa_inj h1, h2⟩
theorem num_end {a b : Int} {x y : List UInt8} (h : itoa a ++ 10 :: x = itoa b ++ 10 :: y) : a = b ∧ x = y := by
  obtain ⟨h1, h2⟩ := split_sep 10 (fun c hc => by have := (itoa_char a c hc).2.1; rintro rfl; exact this rfl) (fun c hc => by have := (itoa_char b c hc).2.1; rintro rfl; exact this rfl) h
  exact ⟨itoa_inj h1, h2⟩
theorem txt_next (T : PrintTabs) {a b x y : List UInt8} (h : quoteL T a ++ 32 :: x = quoteL T b ++ 32 :: y) : a = b ∧ x = y := by
  obtain ⟨h1, h2⟩ := quoteL_inj T h
  simp only [List.cons.injEq, true_and] at h2
  exact ⟨h1, h2⟩
/-- An instruction's parts. -/
def partsL (T : PrintTabs) (i : Dop.Ins) : List (List UInt8) :=
  [itoa i.kind, itoa i.op, itoa i.dst, itoa i.a, itoa i.b, itoa i.n, quoteL T i.text, itoa i.to_, itoa i.else_, itoa i.args0, itoa i.args1, itoa i.args2, itoa i.args3, itoa i.args4, itoa i.args5]
def lineL (T : PrintTabs) (i : Dop.Ins) : List UInt8 := join (partsL T i) [32] ++ [10]
theorem line_eq (T : PrintTabs) (i : Dop.Ins) (x : List UInt8) : lineL T i ++ x = itoa i.kind ++ 32 :: (itoa i.op ++ 32 :: (itoa i.dst ++ 32 :: (itoa i.a ++ 32 :: (itoa i.b ++ 32 :: (itoa i.n ++ 32 :: (quoteL T i.text ++ 32 :: (itoa i.to_ ++ 32 :: (itoa i.else_ ++ 32 ::
    (itoa i.args0 ++ 32 :: (itoa i.args1 ++ 32 :: (itoa i.args2 ++ 32 :: (itoa i.args3 ++ 32 :: (itoa i.args4 ++ 32 :: (itoa i.args5 ++ 10 :: x)))))))))))))) := by
  unfold lineL partsL
  rw [join_cons]
  simp [joinTail]
theorem line_inj (T : PrintTabs) {i j : Dop.Ins} {x y : List UInt8} (h : lineL T i ++ x = lineL T j ++ y) : i = j ∧ x = y := by
  rw [line_eq, line_eq] at h
  obtain ⟨e1, h⟩ := num_next h
  obtain ⟨e2, h⟩ := num_next h
  obtain ⟨e3, h⟩ := num_next h
  obtain ⟨e4, h⟩ := num_next h
  obtain ⟨e5, h⟩ := num_next h
  obtain ⟨e6, h⟩ := num_next h
  obtain ⟨e7, h⟩ := txt_next T h
  obtain ⟨e8, h⟩ := num_next h
  obtain ⟨e9, h⟩ := num_next h
  obtain ⟨f1, h⟩ := num_next h
  obtain ⟨f2, h⟩ := num_next h
  obtain ⟨f3, h⟩ := num_next h
  obtain ⟨f4, h⟩ := num_next h
  obtain ⟨f5, h⟩ := num_next h
  obtain ⟨f6, hx⟩ := num_end h
  clear h
  obtain ⟨⟩ := i
  obtain ⟨⟩ := j
  simp only at e1 e2 e3 e4 e5 e6 e7 e8 e9 f1 f2 f3 f4 f5 f6
  subst e1 e2 e3 e4 e5 e6 e7 e8 e9 f1 f2 f3 f4 f5 f6
  exact ⟨rfl, hx⟩
theorem line_ne (T : PrintTabs) (i : Dop.Ins) : lineL T i ≠ [] := by
  unfold lineL
  simp
theorem lines_inj (T : PrintTabs) : ∀ {l m : List Dop.Ins}, l.flatMap (lineL T) = m.flatMap (lineL T) → l = m
  | [], [], _ => rfl
  | [], j :: m, h => by
    rw [List.flatMap_nil, List.flatMap_cons] at h
    have := congrArg List.length h
    rw [List.length_append, List.length_nil] at this
    exact absurd (List.eq_nil_of_length_eq_zero (by omega)) (line_ne T j)
  | i :: l, [], h => by
    rw [List.flatMap_nil, List.flatMap_cons] at h
    have := congrArg List.length h
    rw [List.length_append, List.length_nil] at this
    exact absurd (List.eq_nil_of_length_eq_zero (by omega)) (line_ne T i)
  | i :: l, j :: m, h => by
    rw [List.flatMap_cons, List.flatMap_cons] at h
    obtain ⟨h1, h2⟩ := line_inj T h
    rw [h1, lines_inj T h2]
/-- A function's head. -/
def headL (T : PrintTabs) (f : Dop.Fnc) : List UInt8 := quoteL T f.name ++ [32] ++ itoa f.params ++ [32] ++ itoa f.regs ++ [32] ++ itoa f.frame ++ [10]
def printL (T : PrintTabs) (f : Dop.Fnc) : List UInt8 := headL T f ++ f.code.flatMap (lineL T)
theorem print_inj (T : PrintTabs) {f g : Dop.Fnc} (h : printL T f = printL T g) : f = g := by
  unfold printL headL at h
  simp only [List.append_assoc, List.singleton_append] at h
  obtain ⟨e1, h⟩ := txt_next T h
  obtain ⟨e2, h⟩ := num_next h
  obtain ⟨e3, h⟩ := num_next h
  obtain ⟨e4, h⟩ := num_end h
  have e5 := lines_inj T h
  obtain ⟨⟩ := f
  obtain ⟨⟩ := g
  simp only at e1 e2 e3 e4 e5
  subst e1 e2 e3 e4 e5
  rfl
end Go.Proofs.Law
