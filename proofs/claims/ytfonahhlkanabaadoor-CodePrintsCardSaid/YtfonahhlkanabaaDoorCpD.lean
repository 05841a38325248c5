/-
  A function's text: what the program prints is 'printL'.
-/
import Derived.Test.YtfonahhlkanabaaDoorCpC
set_option maxRecDepth 20000
set_option linter.unusedSimpArgs false
set_option linter.unusedVariables false
namespace Go.Proofs.Law
open Go Go.Lib Go.En Go.Proofs

structure RI (i : En.Dop.Ins) : Prop where
  kind : inI i.kind = true
  op : inI i.op = true
  dst : inI i.dst = true
  a : inI i.a = true
  b : inI i.b = true
  n : inI i.n = true
  to_ : inI i.to_ = true
  else_ : inI i.else_ = true
  args0 : inI i.args0 = true
  args1 : inI i.args1 = true
  args2 : inI i.args2 = true
  args3 : inI i.args3 = true
  args4 : inI i.args4 = true
  args5 : inI i.args5 = true
  text : i.text.length ≤ 50
structure RF (f : En.Dop.Fnc) : Prop where
  params : inI f.params = true
  regs : inI f.regs = true
  frame : inI f.frame = true
  name : f.name.length ≤ 50
  len : f.code.length ≤ 60
  code : ∀ i ∈ f.code, RI i
theorem itoaLe {n : Int} (h : inI n = true) : (itoa n).length ≤ 21 := by
  obtain ⟨h1, h2⟩ := of_decide_eq_true h
  exact itoa_length_le n h1 h2
theorem quoteLe {l : List UInt8} (h : l.length ≤ 50) : (quoteL goPrintTabs l).length ≤ 502 := by
  have := quoteL_len goPrintTabs l
  omega
theorem okQ_le {l : List UInt8} (h : l.length ≤ 50) : okQ l = true := by
  refine decide_eq_true ?_
  omega
theorem line_len {i : En.Dop.Ins} (h : RI i) : (lineL goPrintTabs i).length ≤ 900 := by
  have e := congrArg List.length (line_eq goPrintTabs i [])
  simp only [List.append_nil, List.length_append, List.length_cons, List.length_nil] at e
  have h0 := itoaLe h.kind
  have h1 := itoaLe h.op
  have h2 := itoaLe h.dst
  have h3 := itoaLe h.a
  have h4 := itoaLe h.b
  have h5 := itoaLe h.n
  have h6 := itoaLe h.to_
  have h7 := itoaLe h.else_
  have h8 := itoaLe h.args0
  have h9 := itoaLe h.args1
  have h10 := itoaLe h.args2
  have h11 := itoaLe h.args3
  have h12 := itoaLe h.args4
  have h13 := itoaLe h.args5
  have hq := quoteLe h.text
  rw [e]
  omega
theorem byX_O (c : UInt8) : byX En.Dop.D7 2 (byO En.Dop.D7 2 c) = (c.toNat : Int) := rfl
theorem by_all (l : List UInt8) : ((l.map (byO En.Dop.D7 2)).all fun (b : Int) => decide ((0 : Int) ≤ byX En.Dop.D7 (2 : Nat) b ∧ byX En.Dop.D7 (2 : Nat) b < (256 : Int))) = true := by
  rw [List.all_eq_true]
  intro x hx
  obtain ⟨c, _, rfl⟩ := List.mem_map.1 hx
  refine decide_eq_true ?_
  rw [byX_O]
  have := c.toNat_lt
  omega
theorem by_map (l : List UInt8) : List.map (fun (b : Int) => (byX En.Dop.D7 (2 : Nat) b).toNat.toUInt8) (l.map (byO En.Dop.D7 2)) = l := by
  rw [List.map_map]
  apply List.ext_getElem?
  intro j
  rw [List.getElem?_map]
  cases l[j]? with
  | none => rfl
  | some c =>
    simp only [Option.map_some, Function.comp]
    rw [byX_O, Int.toNat_natCast]
    simp
def xsA (r : En.Dop.Ar6) : List Int := [r.x0, r.x1, r.x2, r.x3, r.x4, r.x5]
theorem room16 {n : Nat} (h : n ≤ 1000) : room 16 n = true := by
  refine decide_eq_true ?_
  omega
theorem room1 {n : Nat} (h : n ≤ 1000000) : room 1 n = true := by
  refine decide_eq_true ?_
  omega
theorem args_loop (l : List En.Dop.Ins) (m k : Int) (r : En.Dop.Ar6) (hr : ∀ x ∈ xsA r, inI x = true) (b : List Int) : ∀ (n j : Nat) (t : List (List UInt8)), j + n = 6 → t.length ≤ 9 + j →
    Tryd.m7_9 t l m k r (I j) b = Tryd.m7_9 (t ++ ((xsA r).drop j).map itoa) l m k r (I 6) b
  | 0, j, t, h, _ => by
    have e : j = 6 := by omega
    subst e
    have : (xsA r).drop 6 = [] := rfl
    rw [this]
    simp only [List.map_nil, List.append_nil]
  | n + 1, j, t, h, ht => by
    have hj : j < 6 := by omega
    have hj' : j < (xsA r).length := by show j < 6; omega
    have e1 : (I j < 6) := by simp only [I_eq]; omega
    have e2 : I j < I 6 := by simp only [I_eq]; omega
    have e3 : inI ((xsA r).getD j 0) = true := hr _ (by simp [List.getD, hj'])
    have e3' : inI ((r.x0 :: r.x1 :: r.x2 :: r.x3 :: r.x4 :: r.x5 :: @List.nil Int).getD j (0 : Int)) = true := e3
    have k1 := args_loop l m k r hr b n (j + 1) (t ++ [itoa ((xsA r).getD j 0)]) (by omega) (by rw [List.length_append]; simp; omega)
    rw [Tryd.m7_9_eq]
    simp only [e1, e2, I_nn, I_nat, and_self, decide_true, if_true, e3', andC_none]
    rw [if_pos (room16 (by simp only [List.length_cons, List.length_nil]; omega)), I_s, if_pos (I_in (b := 6) (by omega) (by omega)), drop_get (0 : Int) hj', List.map_cons, ← List.singleton_append (l := List.map itoa _), ← List.append_assoc]
    exact k1
def arOf (i : En.Dop.Ins) : En.Dop.Ar6 := ⟨i.args0, i.args1, i.args2, i.args3, i.args4, i.args5⟩
theorem lines_loop (l : List En.Dop.Ins) (hl : l.length ≤ 60) (hr : ∀ i ∈ l, RI i) : ∀ (n k : Nat) (acc : List UInt8), k + n = l.length → 0 < acc.length → acc.length ≤ 2000 + 900 * k →
    Tryd.m7_5 l (I l.length) (I k) (acc.map (byO En.Dop.D7 2)) = some ((acc ++ (l.drop k).flatMap (lineL goPrintTabs), ()), ())
  | 0, k, acc, h, h0, _ => by
    have e : k = l.length := by omega
    rw [Tryd.m7_5_eq, List.drop_eq_nil_of_le (by omega : l.length ≤ k)]
    subst e
    simp only [I_nlt, decide_false, Bool.false_eq_true, if_false, by_map, List.flatMap_nil, List.append_nil]
    rw [if_pos ((Bool.and_eq_true _ _).mpr ⟨decide_eq_true (by rw [List.length_map]; exact h0), by_all acc⟩)]
  | n + 1, k, acc, h, h0, ha => by
    have hk : k < l.length := by omega
    have hm : l.getD k En.Dop.d3 ∈ l := by simp [List.getD, hk]
    have hi := hr _ hm
    have hll := line_len hi
    have k1 := lines_loop l hl hr n (k + 1) (acc ++ lineL goPrintTabs (l.getD k En.Dop.d3)) (by omega) (by rw [List.length_append]; omega) (by rw [List.length_append]; omega)
    rw [drop_get En.Dop.d3 hk, List.flatMap_cons, ← List.append_assoc, Tryd.m7_5_eq]
    simp only [I_lt hk, I_nn, I_nat, and_self, decide_true, if_true]
    have a1 := args_loop l (I l.length) (I k) (arOf (l.getD k En.Dop.d3)) (by
      intro x hx
      simp only [xsA, arOf, List.mem_cons, List.not_mem_nil, or_false] at hx
      rcases hx with rfl | rfl | rfl | rfl | rfl | rfl
      · exact hi.args0
      · exact hi.args1
      · exact hi.args2
      · exact hi.args3
      · exact hi.args4
      · exact hi.args5) (acc.map (byO En.Dop.D7 2)) 6 0 ((partsL goPrintTabs (l.getD k En.Dop.d3)).take 9) (by omega) (by simp [partsL])
    generalize l.getD k En.Dop.d3 = i at hi hll k1 a1 ⊢
    have e1 : (partsL goPrintTabs i).take 9 ++ ((xsA (arOf i)).drop 0).map itoa = partsL goPrintTabs i := rfl
    rw [e1] at a1
    simp only [hi.kind, hi.op, hi.dst, hi.a, hi.b, hi.n, okQ_le hi.text, hi.to_, hi.else_, if_true]
    show Tryd.m7_9 ((partsL goPrintTabs i).take 9) l (I l.length) (I k) (arOf i) (I 0) (acc.map (byO En.Dop.D7 2)) = _
    rw [a1, Tryd.m7_9_eq]
    have hjl : (join (partsL goPrintTabs i) [32]).length + 1 ≤ 900 := by
      have e := hll
      unfold lineL at e
      rw [List.length_append] at e
      exact e
    have e6 : ¬ (I 6 < 6) := by decide
    have e7 : (partsL goPrintTabs i).length = 15 := rfl
    simp only [e6, decide_false, Bool.false_eq_true, if_false]
    rw [if_pos (decide_eq_true ⟨by omega, by omega⟩), if_pos (decide_eq_true (by simp only [List.length_cons, List.length_nil]; omega)), if_pos (room1 (by rw [List.length_append, List.length_map]; simp only [List.length_cons, List.length_nil]; omega)), I_s, if_pos (I_in hk (by omega))]
    rw [← List.map_append]
    exact k1
theorem print_v {f : En.Dop.Fnc} (h : RF f) : Tryd.m7 f = some ((printL goPrintTabs f, ()), ()) := by
  have hq := quoteLe h.name
  have h1 := itoaLe h.params
  have h2 := itoaLe h.regs
  have h3 := itoaLe h.frame
  have k1 := lines_loop f.code h.len h.code f.code.length 0 (headL goPrintTabs f) (by omega) (by unfold headL; rw [List.length_append]; simp) (by
    unfold headL
    simp only [List.length_append, List.length_cons, List.length_nil]
    omega)
  rw [Tryd.m7_eq]
  rw [if_pos (okQ_le h.name), if_pos (decide_eq_true (by simp only [List.length_append, List.length_cons, List.length_nil]; omega)), if_pos h.params,
    if_pos (decide_eq_true (by simp only [List.length_append, List.length_cons, List.length_nil]; omega)), if_pos (decide_eq_true (by simp only [List.length_append, List.length_cons, List.length_nil]; omega)), if_pos h.regs,
    if_pos (decide_eq_true (by simp only [List.length_append, List.length_cons, List.length_nil]; omega)), if_pos (decide_eq_true (by simp only [List.length_append, List.length_cons, List.length_nil]; omega)), if_pos h.frame,
    if_pos (decide_eq_true (by simp only [List.length_append, List.length_cons, List.length_nil]; omega)), if_pos (decide_eq_true (by simp only [List.length_append, List.length_cons, List.length_nil]; omega)),
    if_pos (room1 (by simp only [List.length_append, List.length_cons, List.length_nil]; omega))]
  exact k1
end Go.Proofs.Law
