/-
  A region that draws its order: what is checked of it (Chk), and that its first part may come in any order (VC.draw).
-/
import Derived.Test.YtcifaokahhbflaaDoorEn12
namespace Go.En
open Go.RowKit

section
variable {S : Sig}

theorem lk_pick {α : Type} {t : List (Nat × α)} {u : Nat} {x : α} : ∀ {l : List Nat}, lk (pick l t) u = some x → u ∈ l ∧ lk t u = some x
  | [], h => by simp [pick, lk_nil] at h
  | v :: r, h => by
    simp only [pick] at h
    split at h
    · rename_i y hy
      simp only [lk_cons] at h
      split at h
      · rename_i he; subst he; cases h; exact ⟨by simp, hy⟩
      · have := lk_pick h; exact ⟨by simp [this.1], this.2⟩
    · have := lk_pick h; exact ⟨by simp [this.1], this.2⟩

theorem lk_putAll {u : Nat} {x : SV} : ∀ {rs : List (Rec S)} {t : List (Nat × SV)}, lk (putAll t rs) u = some x → (∃ p r q, rs = p ++ r :: q ∧ r.o.dst = some u ∧ x = r.x) ∨ ((∀ r ∈ rs, r.o.dst ≠ some u) ∧ lk t u = some x)
  | [], t, h => .inr ⟨by simp, h⟩
  | r :: rs, t, h => by
    simp only [putAll] at h
    split at h
    · rename_i hd
      rcases lk_putAll h with ⟨p, r', q, h1, h2, h3⟩ | ⟨h1, h2⟩
      · exact .inl ⟨r :: p, r', q, by simp [h1], h2, h3⟩
      · refine .inr ⟨fun r' hr' => ?_, h2⟩
        rcases List.mem_cons.1 hr' with rfl | hr'
        · rw [hd]; simp
        · exact h1 r' hr'
    · rename_i d hd
      rcases lk_putAll h with ⟨p, r', q, h1, h2, h3⟩ | ⟨h1, h2⟩
      · exact .inl ⟨r :: p, r', q, by simp [h1], h2, h3⟩
      · rw [lk_pt] at h2
        split at h2
        · rename_i he; subst he; cases h2; exact .inl ⟨[], r, rs, rfl, hd, rfl⟩
        · rename_i he
          refine .inr ⟨fun r' hr' => ?_, h2⟩
          rcases List.mem_cons.1 hr' with rfl | hr'
          · rw [hd]; simpa using he
          · exact h1 r' hr'

/-- Names one behind the other. -/
def Chain : Nat → List (Rec S) → Prop
  | _, [] => True
  | n, r :: rs => r.n1 = n ∧ r.n1 ≤ r.n2 ∧ (∀ i b, lk r.o1 i = some b → r.n1 ≤ i ∧ i < r.n2) ∧ Chain r.n2 rs
theorem nxt_append : ∀ (n : Nat) (l m : List (Rec S)), nxt n (l ++ m) = nxt (nxt n l) m
  | n, [], m => rfl
  | n, r :: l, m => by simp only [List.cons_append, nxt]; exact nxt_append _ l m
theorem Chain.append : ∀ {n : Nat} {l m : List (Rec S)}, Chain n (l ++ m) ↔ Chain n l ∧ Chain (nxt n l) m
  | n, [], m => by simp [Chain, nxt]
  | n, r :: l, m => by simp only [List.cons_append, Chain, nxt, Chain.append (l := l), and_assoc]
theorem Chain.le : ∀ {n : Nat} {l : List (Rec S)}, Chain n l → n ≤ nxt n l
  | n, [], _ => Nat.le_refl _
  | n, r :: l, ⟨h1, h2, _, h4⟩ => by have := Chain.le h4; simp only [nxt]; omega
theorem Chain.mem {n : Nat} {l : List (Rec S)} (h : Chain n l) {r : Rec S} (hr : r ∈ l) : n ≤ r.n1 ∧ r.n1 ≤ r.n2 ∧ r.n2 ≤ nxt n l ∧ ∀ i b, lk r.o1 i = some b → r.n1 ≤ i ∧ i < r.n2 := by
  obtain ⟨p, q, rfl⟩ := List.append_of_mem hr
  obtain ⟨h1, h2, h3, h4, h5⟩ := Chain.append.1 h
  have h6 := h1.le
  have h7 := h5.le
  refine ⟨by omega, h3, ?_, h4⟩
  rw [nxt_append]; exact h7
theorem Chain.at {n : Nat} {p q : List (Rec S)} {r : Rec S} (h : Chain n (p ++ r :: q)) : r.n1 = nxt n p := (Chain.append.1 h).2.1
theorem Chain.before {n : Nat} {p q : List (Rec S)} {r r' : Rec S} (h : Chain n (p ++ r :: q)) (hr : r' ∈ p) : r'.n2 ≤ r.n1 := by
  obtain ⟨h1, h2, _⟩ := Chain.append.1 h
  rw [h2]; exact (h1.mem hr).2.2.1
theorem Chain.behind {n : Nat} {p q : List (Rec S)} {r r' : Rec S} (h : Chain n (p ++ r :: q)) (hr : r' ∈ q) : r.n2 ≤ r'.n1 := by
  obtain ⟨h1, h2, h3, h4, h5⟩ := Chain.append.1 h
  exact (h5.mem hr).1

theorem lk_oL {L : Nat → Bool} {o : List (Nat × Own S)} {u : Nat} {b : Own S} : ∀ {n : Nat} {rs : List (Rec S)}, Chain n rs → (∀ i c, lk o i = some c → i < n) → (lk (oL L o rs) u = some b ↔ (∃ r ∈ rs, L r.i = true ∧ lk r.o1 u = some b) ∨ lk o u = some b)
  | n, [], _, _ => by simp [oL]
  | n, r :: rs, h, ho => by
    obtain ⟨h1, h2, h3, h4⟩ := h
    have ih := lk_oL (L := L) (u := u) (b := b) h4 (fun i c hi => by have := ho i c hi; omega)
    simp only [oL]
    split
    · rename_i hL
      rw [lk_app]
      cases hr : lk r.o1 u with
      | none =>
        simp only [Option.orElse_none, ih, List.mem_cons, exists_eq_or_imp, hr]
        simp
      | some c =>
        simp only [Option.orElse_some, Option.some.injEq]
        constructor
        · rintro rfl; exact .inl ⟨r, by simp, hL, hr⟩
        · rintro (⟨r', hr', _, h5⟩ | h5)
          · rcases List.mem_cons.1 hr' with rfl | hr'
            · rw [hr] at h5; cases h5; rfl
            · have h6 := h3 u c hr
              have h7 := h4.mem hr'
              have h8 := h7.2.2.2 u b h5
              omega
          · have h6 := h3 u c hr
            have := ho u b h5
            omega
    · rename_i hL
      rw [ih]
      simp only [List.mem_cons, exists_eq_or_imp, hL]
      simp

theorem bitB_eq (m i : Nat) : bitB m i = m.testBit i := by
  unfold bitB Nat.testBit
  have h : Nat.land 1 (m.shiftRight i) = 1 &&& (m >>> i) := rfl
  rw [h]
  rw [Nat.one_and_eq_mod_two]
  have : m >>> i % 2 = 0 ∨ m >>> i % 2 = 1 := by omega
  rcases this with h | h <;> rw [h] <;> rfl

/-- Who must have come before whom, along the edges: a set of numbers as bits. -/
def bindsB (e : Edge) : Bool := match e.ground with
  | .textOnly _ => false
  | .gcOnly _ => false
  | _ => true
theorem bindsB_eq (e : Edge) : bindsB e = Region.binds .any e := by
  unfold bindsB Region.binds
  cases e.ground <;> rfl
def maskOf (ms : List Nat) : List Edge → Nat → Nat
  | [], s => s
  | e :: r, s => match bindsB e with
    | true => match nth ms e.on with
      | some m => maskOf ms r (Nat.lor s (Nat.lor (2 ^ e.on) m))
      | none => maskOf ms r (Nat.lor s (2 ^ e.on))
    | false => maskOf ms r s
def masksOf : List Oper → List Nat → List Nat
  | [], ms => ms
  | o :: r, ms => masksOf r (ms ++ [maskOf ms o.after.toList 0])
theorem maskOf_bit {ms : List Nat} {i : Nat} : ∀ {l : List Edge} {s : Nat}, (maskOf ms l s).testBit i = true → s.testBit i = true ∨ ∃ e ∈ l, Region.binds .any e = true ∧ (e.on = i ∨ (ms.getD e.on 0).testBit i = true)
  | [], s, h => .inl h
  | e :: l, s, h => by
    simp only [maskOf] at h
    split at h
    · rename_i hb
      rw [bindsB_eq] at hb
      split at h
      · rename_i m hm
        rw [nth_eq] at hm
        rcases maskOf_bit h with h | ⟨e', h1, h2⟩
        · rw [show Nat.lor s (Nat.lor (2 ^ e.on) m) = s ||| (2 ^ e.on ||| m) from rfl] at h
          simp only [Nat.testBit_or, Bool.or_eq_true, Nat.testBit_two_pow, decide_eq_true_eq] at h
          rcases h with h | h | h
          · exact .inl h
          · exact .inr ⟨e, by simp, hb, .inl h⟩
          · exact .inr ⟨e, by simp, hb, .inr (by simpa [List.getD_eq_getElem?_getD, hm] using h)⟩
        · exact .inr ⟨e', by simp [h1], h2⟩
      · rcases maskOf_bit h with h | ⟨e', h1, h2⟩
        · rw [show Nat.lor s (2 ^ e.on) = s ||| 2 ^ e.on from rfl] at h
          simp only [Nat.testBit_or, Bool.or_eq_true, Nat.testBit_two_pow, decide_eq_true_eq] at h
          rcases h with h | h
          · exact .inl h
          · exact .inr ⟨e, by simp, hb, .inl h⟩
        · exact .inr ⟨e', by simp [h1], h2⟩
    · rcases maskOf_bit h with h | ⟨e', h1, h2⟩
      · exact .inl h
      · exact .inr ⟨e', by simp [h1], h2⟩
theorem masksOf_spec : ∀ (l : List Oper) (ms : List Nat), (∀ j, j < ms.length → (masksOf l ms)[j]? = ms[j]?) ∧ (∀ j o, l[j]? = some o → ∃ ms', ms'.length = ms.length + j ∧ (∀ x, x < ms'.length → (masksOf l ms)[x]? = ms'[x]?) ∧ (masksOf l ms)[ms.length + j]? = some (maskOf ms' o.after.toList 0))
  | [], ms => ⟨fun j _ => by simp [masksOf], fun j o h => by simp at h⟩
  | o :: r, ms => by
    obtain ⟨h1, h2⟩ := masksOf_spec r (ms ++ [maskOf ms o.after.toList 0])
    refine ⟨fun j hj => ?_, fun j o' h => ?_⟩
    · simp only [masksOf]
      rw [h1 j (by simp; omega), List.getElem?_append_left hj]
    · cases j with
      | zero =>
        simp only [List.getElem?_cons_zero, Option.some.injEq] at h
        subst h
        refine ⟨ms, rfl, fun x hx => ?_, ?_⟩
        · simp only [masksOf]; rw [h1 x (by simp; omega), List.getElem?_append_left hx]
        · simp only [masksOf]; rw [h1 _ (by simp)]; simp
      | succ j =>
        simp only [List.getElem?_cons_succ] at h
        obtain ⟨ms', h3, h4, h5⟩ := h2 j o' h
        refine ⟨ms', by simp at h3; omega, fun x hx => ?_, ?_⟩
        · simp only [masksOf]; exact h4 x hx
        · simp only [masksOf]
          rw [← h5]
          congr 1
          simp; omega
def anc (all : Array Oper) (j i : Nat) : Bool := ancM (masksOf all.toList []) j i
/-- In a set that holds with each what it waits for, whoever is ready has all before it in the set. -/
theorem anc_in {all : Array Oper} {L : Nat → Bool} (hcl : ∀ j o, all[j]? = some o → L j = true → ∀ e ∈ o.after, Region.binds .any e = true → L e.on = true) :
    ∀ {j : Nat} {o : Oper} {i : Nat}, all[j]? = some o → (∀ e ∈ o.after, Region.binds .any e = true → L e.on = true) → anc all j i = true → L i = true := by
  intro j
  induction j using Nat.strongRecOn with
  | _ j ih =>
    intro o i ho hdep ha
    obtain ⟨ms', h1, h2, h3⟩ := (masksOf_spec all.toList []).2 j o (by simpa using ho)
    simp only [List.length_nil, Nat.zero_add] at h1 h3
    unfold anc ancM at ha
    simp only [nth_eq, h3, bitB_eq] at ha
    rcases maskOf_bit ha with h | ⟨e, he, hb, h⟩
    · simp at h
    · have hLe := hdep e (by simpa using he) hb
      rcases h with h | h
      · rw [← h]; exact hLe
      · rw [List.getD_eq_getElem?_getD] at h
        rcases Nat.lt_or_ge e.on ms'.length with hlt | hge
        · have h4 := h2 e.on hlt
          cases ho' : all[e.on]? with
          | none =>
            exfalso
            have : all.size ≤ e.on := by simpa using ho'
            have hj : j < all.size := (Array.getElem?_eq_some_iff.1 ho).1
            omega
          | some o' =>
            refine ih e.on (by omega) ho' (hcl e.on o' ho' hLe) ?_
            unfold anc ancM
            rw [nth_eq, h4]
            cases hm : ms'[e.on]? with
            | none => rw [hm] at h; simp at h
            | some m => rw [hm] at h; simpa [bitB_eq] using h
        · rw [List.getElem?_eq_none hge] at h; simp at h

/-- What is asked of a region's order: the first part rs, the second part suf (numbers). -/
structure Chk (all : Array Oper) (ms : List Nat) (rs : List (Rec S)) (suf : List Nat) : Prop where
  ms : ms = masksOf all.toList []
  sel : ∀ (j : Nat) (o : Oper) cs b, all[j]? = some o → o.op ≠ .select cs b
  ops : ∀ r ∈ rs, all[r.i]? = some r.o
  nd : (rs.map (·.i)).Nodup
  cover : ∀ i, i < all.size → i ∈ rs.map (·.i) ∨ i ∈ suf
  disj : ∀ i ∈ suf, i < all.size ∧ i ∉ rs.map (·.i)
  ndS : suf.Nodup
  dep : ∀ p r q, rs = p ++ r :: q → ∀ e ∈ r.o.after, Region.binds .any e = true → e.on ∈ p.map (·.i)
  depS : ∀ p j q o, suf = p ++ j :: q → all[j]? = some o → ∀ e ∈ o.after, Region.binds .any e = true → e.on ∈ rs.map (·.i) ∨ e.on ∈ p
  sep : ∀ p r q r', rs = p ++ r :: q → r' ∈ q → (∀ u, r.o.dst = some u → u ∈ slots all r'.o → anc all r'.i r.i = true) ∧ (∀ u, r'.o.dst = some u → u ∈ slots all r.o → anc all r'.i r.i = true) ∧ (∀ u, r.o.dst = some u → r'.o.dst ≠ some u)
  sufS : ∀ p j q, suf = p ++ j :: q → (∀ i ∈ p, anc all j i = true) ∧ (∀ r ∈ rs, r.pu = false → anc all j r.i = true)
  pure : ∀ r ∈ rs, r.pu = true → ∀ j oj, all[j]? = some oj → j ≠ r.i → anc all r.i j = false → (∀ e ∈ oj.after, Region.binds .any e = true → e.on ≠ r.i) → r.o.apart all oj = true

theorem split_uniq {rs p p' q q' : List (Rec S)} {r r' : Rec S} (hn : (rs.map (·.i)).Nodup) (h : rs = p ++ r :: q) (h' : rs = p' ++ r' :: q') (hi : r.i = r'.i) : p = p' ∧ r = r' ∧ q = q' := by
  subst h
  induction p generalizing p' with
  | nil =>
    cases p' with
    | nil => simp at h'; exact ⟨rfl, h'.1, h'.2⟩
    | cons x p' =>
      simp only [List.nil_append, List.cons_append, List.cons.injEq] at h'
      obtain ⟨rfl, h2⟩ := h'
      simp only [List.nil_append, List.map_cons, List.nodup_cons] at hn
      exact absurd (by rw [h2, hi]; simp) hn.1
  | cons x p ih =>
    cases p' with
    | nil =>
      simp only [List.nil_append, List.cons_append, List.cons.injEq] at h'
      obtain ⟨rfl, h2⟩ := h'
      simp only [List.cons_append, List.map_cons, List.nodup_cons] at hn
      exact absurd (by rw [← hi]; simp) hn.1
    | cons y p' =>
      simp only [List.cons_append, List.cons.injEq] at h'
      obtain ⟨rfl, h2⟩ := h'
      simp only [List.cons_append, List.map_cons, List.nodup_cons] at hn
      obtain ⟨h3, h4, h5⟩ := ih hn.2 h2
      exact ⟨by rw [h3], h4, h5⟩
theorem rec_uniq {rs : List (Rec S)} {r r' : Rec S} (hn : (rs.map (·.i)).Nodup) (h : r ∈ rs) (h' : r' ∈ rs) (hi : r.i = r'.i) : r = r' := by
  obtain ⟨p, q, e⟩ := List.append_of_mem h
  obtain ⟨p', q', e'⟩ := List.append_of_mem h'
  exact (split_uniq hn e e' hi).2.1

variable {P : Program} {w0 : World} {F D0 D : Nat → Prop} {s : St S} {all : Array Oper} {ms : List Nat} {rs : List (Rec S)} {suf : List Nat}

/-- A record is right. -/
structure RecOk (P : Program) (w0 : World) (F D0 : Nat → Prop) (s : St S) (all : Array Oper) (ms : List Nat) (p : List (Rec S)) (r : Rec S) : Prop where
  slot : ∀ d, r.o.dst = some d → d < s.sz
  pure : r.pu = true → ∀ (D N : Nat → Prop) β a w, G w0 F D0 D (seenAt s all ms p r.i r.o false) N β a w → (∀ j, r.n1 ≤ j → j < r.n2 → ¬ N j) → ∃ β', NewOk D D N r.n1 r.n2 r.o1 β β' w w ∧ r.x.on (more N r.n1 r.n2) ∧ Yields P all r.o (r.x.den β') a
  imp : r.pu = false → ∀ (D N : Nat → Prop) β a w, G w0 F D0 D (seenAt s all ms p r.i r.o false) N β a w → (∀ j, r.n1 ≤ j → j < r.n2 → ¬ N j) → ∀ K Q', (∀ D' β' w', NewOk D D' N r.n1 r.n2 r.o1 β β' w w' → r.x.on (more N r.n1 r.n2) → K (a.put r.o.dst (r.x.den β')) w') → wpOp P all Q' r.i K a w

def NL (s : St S) (rs : List (Rec S)) (L : Nat → Bool) (k : Nat) : Prop := k < s.n ∨ ∃ r ∈ rs, L r.i = true ∧ r.n1 ≤ k ∧ k < r.n2

/-- The state when the operations L of the first part have come. -/
structure J (w0 : World) (F D0 D : Nat → Prop) (s : St S) (βs : Nat → Nm) (rs : List (Rec S)) (L : Nat → Bool) (β : Nat → Nm) (a : Act) (w : World) : Prop where
  defers : a.defers = []
  size : a.tmps.size = s.sz
  wft : ∀ u x, lk s.t u = some x → u < s.sz ∧ x.on (· < s.n)
  wfo : ∀ i b, lk s.o i = some b → i < s.n ∧ b.on (· < s.n)
  agr : ∀ i, i < s.n → βs i = β i
  old : ∀ u x, lk s.t u = some x → (∀ r ∈ rs, r.o.dst = some u → L r.i = false) → a.tmps.getD u undef = x.den β
  new : ∀ r ∈ rs, L r.i = true → ∀ u, r.o.dst = some u → u < s.sz ∧ r.x.on (NL s rs L) ∧ a.tmps.getD u undef = r.x.den β
  gh : GH w0 F D0 D (oL L s.o rs) (NL s rs L) β w

/-- What an operation sees is right when all that it waits for has come, and it has not. -/
theorem J.seen {βs : Nat → Nm} {L : Nat → Bool} {β : Nat → Nm} {a : Act} {w : World} (hj : J w0 F D0 D s βs rs L β a w) (hc : Chk all ms rs suf) (hcl : ∀ j o, all[j]? = some o → L j = true → ∀ e ∈ o.after, Region.binds .any e = true → L e.on = true)
    {p q : List (Rec S)} {r : Rec S} (hr : rs = p ++ r :: q) (hready : ∀ e ∈ r.o.after, Region.binds .any e = true → L e.on = true) (hL : L r.i = false) {t : Nat} {y : SV} (hy : lk (pick (slots all r.o) (putAll s.t p)) t = some y) :
    t < s.sz ∧ y.on (NL s rs L) ∧ a.tmps.getD t undef = y.den β := by
  obtain ⟨h1, h2⟩ := lk_pick hy
  have hro : all[r.i]? = some r.o := hc.ops r (by rw [hr]; simp)
  rcases lk_putAll h2 with ⟨p', r', q', h5, h7, h8⟩ | ⟨h3, h4⟩
  · have hrs : rs = p' ++ r' :: (q' ++ r :: q) := by rw [hr, h5]; simp
    have hanc := (hc.sep p' r' (q' ++ r :: q) r hrs (by simp)).1 t h7 h1
    have hLi : L r'.i = true := anc_in hcl hro hready hanc
    rw [h8]
    exact hj.new r' (by rw [hrs]; simp) hLi t h7
  · obtain ⟨h5, h6⟩ := hj.wft t y h4
    refine ⟨h5, on_mono (fun k hk => .inl hk) h6, hj.old t y h4 fun r2 hr2 h13 => ?_⟩
    cases hLr2 : L r2.i with
    | false => rfl
    | true =>
      exfalso
      rw [hr] at hr2
      rcases List.mem_append.1 hr2 with hz | hz
      · exact h3 r2 hz h13
      · rcases List.mem_cons.1 hz with rfl | hmem
        · rw [hL] at hLr2; cases hLr2
        · have hanc := (hc.sep p r q r2 hr hmem).2.1 t h13 h1
          have hro2 : all[r2.i]? = some r2.o := hc.ops r2 (by rw [hr]; simp [hmem])
          have := anc_in hcl hro2 (hcl r2.i r2.o hro2 hLr2) hanc
          rw [hL] at this
          cases this

theorem getD_put_ne {a : Act} {d : Option Tmp} {u : Nat} {x : Value} (h : d ≠ some u) : (a.put d x).tmps.getD u undef = a.tmps.getD u undef := by
  cases d with
  | none => rfl
  | some d =>
    have hne : d ≠ u := fun e => h (by rw [e])
    simp [Act.put, Array.getElem?_setIfInBounds_ne hne]
theorem getD_put_eq {a : Act} {u : Nat} {x : Value} (h : u < a.tmps.size) : (a.put (some u) x).tmps.getD u undef = x := by
  simp [Act.put, h]

def addL (L : Nat → Bool) (i : Nat) : Nat → Bool := fun j => L j || j == i

theorem NL_add {L : Nat → Bool} {r : Rec S} (hc : Chk all ms rs suf) (hr : r ∈ rs) (k : Nat) : NL s rs (addL L r.i) k ↔ more (NL s rs L) r.n1 r.n2 k := by
  simp only [NL, more]
  constructor
  · rintro (h | ⟨r', h1, h2, h3⟩)
    · exact .inl (.inl h)
    · simp only [addL, Bool.or_eq_true, beq_iff_eq] at h2
      rcases h2 with h2 | h2
      · exact .inl (.inr ⟨r', h1, h2, h3⟩)
      · have := rec_uniq hc.nd h1 hr h2
        subst this; exact .inr h3
  · rintro ((h | ⟨r', h1, h2, h3⟩) | h)
    · exact .inl h
    · exact .inr ⟨r', h1, by simp [addL, h2], h3⟩
    · exact .inr ⟨r, hr, by simp [addL], h⟩

/-- A value has been put in its slot. -/
theorem J.put {βs : Nat → Nm} {L : Nat → Bool} {β β' : Nat → Nm} {a : Act} {w w' : World} (hj : J w0 F D0 D s βs rs L β a w) (hc : Chk all ms rs suf) (hch : Chain s.n rs) {r : Rec S} (hr : r ∈ rs) (hslot : ∀ d, r.o.dst = some d → d < s.sz) {D' : Nat → Prop}
    (hn : NewOk D D' (NL s rs L) r.n1 r.n2 r.o1 β β' w w') (hx : r.x.on (more (NL s rs L) r.n1 r.n2)) :
    J w0 F D0 D' s βs rs (addL L r.i) β' (a.put r.o.dst (r.x.den β')) w' := by
  have hsub : ∀ k, NL s rs L k → NL s rs (addL L r.i) k := fun k hk => (NL_add hc hr k).2 (.inl hk)
  have hother : ∀ r' ∈ rs, r'.i ≠ r.i → ∀ u, r'.o.dst = some u → r.o.dst ≠ some u := fun r' h hne u h3 hd => by
    obtain ⟨p, q, hr1⟩ := List.append_of_mem hr
    obtain ⟨p', q', h1⟩ := List.append_of_mem h
    rcases List.append_eq_append_iff.1 (hr1.symm.trans h1) with ⟨l, h4, h5⟩ | ⟨l, h4, h5⟩
    · cases l with
      | nil => simp only [List.nil_append, List.cons.injEq] at h5; exact hne (by rw [h5.1])
      | cons x l =>
        simp only [List.cons_append, List.cons.injEq] at h5
        have : r' ∈ q := by rw [h5.2]; simp
        exact (hc.sep p r q r' hr1 this).2.2 u hd h3
    · cases l with
      | nil => simp only [List.nil_append, List.cons.injEq] at h5; exact hne (by rw [h5.1])
      | cons x l =>
        simp only [List.cons_append, List.cons.injEq] at h5
        have : r ∈ q' := by rw [h5.2]; simp
        exact (hc.sep p' r' q' r h1 this).2.2 u h3 hd
  have hwf : ∀ i c, lk s.o i = some c → i < s.n := fun i c hi => (hj.wfo i c hi).1
  refine ⟨by cases r.o.dst <;> simpa [Act.put] using hj.defers, by cases r.o.dst <;> simpa [Act.put] using hj.size, hj.wft, hj.wfo, fun i hi => (hj.agr i hi).trans (hn.agree i (.inl hi)), fun u x hu hno => ?_, fun r' hr' hLi u hu => ?_, ?_⟩
  · have hne : r.o.dst ≠ some u := fun hd => by
      have := hno r hr hd
      simp [addL] at this
    rw [getD_put_ne hne, hj.old u x hu fun r' hr' hd => by have := hno r' hr' hd; simp only [addL, Bool.or_eq_false_iff] at this; exact this.1]
    exact den_congr hn.agree x (on_mono (fun k hk => .inl hk) (hj.wft u x hu).2)
  · by_cases he : r'.i = r.i
    · have := rec_uniq hc.nd hr' hr he
      subst this
      have hlt := hslot u hu
      refine ⟨hlt, on_mono (fun k hk => (NL_add hc hr k).2 hk) hx, ?_⟩
      rw [hu, getD_put_eq (by rw [hj.size]; exact hlt)]
    · have hLi' : L r'.i = true := by simpa [addL, he] using hLi
      obtain ⟨h1, h2, h3⟩ := hj.new r' hr' hLi' u hu
      refine ⟨h1, on_mono hsub h2, ?_⟩
      rw [getD_put_ne (hother r' hr' he u hu), h3]
      exact den_congr hn.agree _ h2
  · refine GH.subO (GH.mono (hj.gh.extend hn) fun k hk => (NL_add hc hr k).2 hk) fun u b hu => ?_
    rw [lk_oL hch hwf] at hu
    rw [lk_app]
    rcases hu with ⟨r', h1, h2, h3⟩ | hu
    · simp only [addL, Bool.or_eq_true, beq_iff_eq] at h2
      by_cases he : r'.i = r.i
      · have := rec_uniq hc.nd h1 hr he
        subst this
        simp [h3]
      · have hLi' : L r'.i = true := by simpa [he] using h2
        have h4 : lk r.o1 u = none := by
          cases h4 : lk r.o1 u with
          | none => rfl
          | some c =>
            exfalso
            have a1 := (hch.mem hr).2.2.2 u c h4
            have a2 := (hch.mem h1).2.2.2 u b h3
            obtain ⟨p, q, e⟩ := List.append_of_mem hr
            have h1' := h1
            rw [e] at h1'
            rw [e] at hch
            rcases List.mem_append.1 h1' with h5 | h5
            · have := hch.before h5; omega
            · rcases List.mem_cons.1 h5 with rfl | h5
              · exact he rfl
              · have := hch.behind h5; omega
        rw [h4]
        simp only [Option.orElse_none]
        exact (lk_oL hch hwf).2 (.inl ⟨r', h1, hLi', h3⟩)
    · have h4 : lk r.o1 u = none := by
        cases h4 : lk r.o1 u with
        | none => rfl
        | some c =>
          have a1 := (hch.mem hr).2.2.2 u c h4
          have a2 := (hch.mem hr).1
          have := hwf u b hu
          omega
      rw [h4]
      simp only [Option.orElse_none]
      exact (lk_oL hch hwf).2 (.inr hu)

def listedL (listed : Array Bool) : Nat → Bool := fun i => listed.getD i false
def unlisted (listed : Array Bool) : Nat := listed.toList.count false

theorem listed_set {listed : Array Bool} {i : Nat} (hi : i < listed.size) : listedL (listed.setIfInBounds i true) = addL (listedL listed) i := by
  funext j
  simp only [listedL, addL]
  by_cases h : i = j
  · subst h; simp [hi]
  · have : (j == i) = false := by simp; omega
    rw [getD_set_ne false h]; simp [this]
theorem unlisted_set {listed : Array Bool} {i : Nat} (hi : i < listed.size) (h : listedL listed i = false) : unlisted (listed.setIfInBounds i true) + 1 = unlisted listed := by
  have hl : i < listed.toList.length := by simpa using hi
  have hv : listed.toList[i] = false := by simpa [listedL, hi] using h
  simp only [unlisted, Array.toList_setIfInBounds]
  have hpos : 0 < listed.toList.count false := List.count_pos_iff.2 (by rw [← hv]; exact List.getElem_mem hl)
  have h1 : (listed.toList.set i true).count false = listed.toList.count false - 1 := by
    rw [List.count_set hl, hv]; simp
  rw [h1]; omega
theorem unlisted_zero {listed : Array Bool} (h : unlisted listed = 0) {i : Nat} (hi : i < listed.size) : listedL listed i = true := by
  have h1 := List.count_eq_zero.1 h
  cases hv : listedL listed i with
  | true => rfl
  | false =>
    exfalso
    apply h1
    have : listed.toList[i]'(by simpa using hi) = false := by simpa [listedL, hi] using hv
    rw [← this]
    exact List.getElem_mem _
theorem ready_of {listed : Array Bool} {i : Nat} {o : Oper} (hi : i < listed.size) (h : listedL listed i = false) (ho : all[i]? = some o) (hd : ∀ e ∈ o.after, Region.binds .any e = true → listedL listed e.on = true) : i ∈ Region.ready .any all listed := by
  refine mem_ready.2 ⟨?_, o, ho, hd⟩
  simpa [listedL, hi] using h
theorem of_ready {listed : Array Bool} {i : Nat} (h : i ∈ Region.ready .any all listed) : listedL listed i = false ∧ i < listed.size ∧ ∃ o, all[i]? = some o ∧ ∀ e ∈ o.after, Region.binds .any e = true → listedL listed e.on = true := by
  obtain ⟨h1, o, h2, h3⟩ := mem_ready.1 h
  have hlt : i < listed.size := by
    rcases Nat.lt_or_ge i listed.size with h' | h'
    · exact h'
    · simp [Array.getElem?_eq_none h'] at h1
  exact ⟨by simpa [listedL, hlt] using h1, hlt, o, h2, h3⟩

def Closed (all : Array Oper) (L : Nat → Bool) : Prop := ∀ j o, all[j]? = some o → L j = true → ∀ e ∈ o.after, Region.binds .any e = true → L e.on = true
theorem Closed.add {L : Nat → Bool} (h : Closed all L) {i : Nat} (hd : ∀ o, all[i]? = some o → ∀ e ∈ o.after, Region.binds .any e = true → L e.on = true) : Closed all (addL L i) := fun j o ho hj e he hb => by
  simp only [addL, Bool.or_eq_true, beq_iff_eq] at hj ⊢
  rcases hj with hj | rfl
  · exact .inl (h j o ho hj e he hb)
  · exact .inl (hd o ho e he hb)

/-- The second part: one at a time. -/
theorem suf_phase (hc : Chk all ms rs suf) {Q' : Exit → Act → World → Prop} : ∀ (q p : List Nat) (fuel : Nat) (listed : Array Bool) (a : Act) (w : World), suf = p ++ q → listed.size = all.size → Closed all (listedL listed) →
    (∀ i, i < all.size → (listedL listed i = true ↔ i ∈ rs.map (·.i) ∨ i ∈ p)) → unlisted listed ≤ fuel → wpList P all Q' (q.filterMap (all[·]?)) a w → wpAny P .any all Q' fuel listed a w
  | [], p, fuel, listed, a, w, hs, hsz, _, hL, _, h => by
    refine wpAny_done ?_ (by simpa [wpList] using h) fuel
    rw [List.eq_nil_iff_forall_not_mem]
    intro i hi
    obtain ⟨h1, h2, _⟩ := of_ready hi
    have : listedL listed i = true := (hL i (by omega)).2 (by have := hc.cover i (by omega); rw [hs] at this; simpa using this)
    rw [h1] at this; cases this
  | j :: q, p, fuel, listed, a, w, hs, hsz, hcl, hL, hf, h => by
    have hjm : j ∈ suf := by rw [hs]; simp
    have hjlt := (hc.disj j hjm).1
    have hjp : j ∉ p := by
      have := hc.ndS; rw [hs, List.nodup_append] at this
      intro hj; exact this.2.2 j hj j (by simp) rfl
    have hLj : listedL listed j = false := by
      cases hv : listedL listed j with
      | false => rfl
      | true => rcases (hL j hjlt).1 hv with h1 | h1
                · exact absurd h1 (hc.disj j hjm).2
                · exact absurd h1 hjp
    obtain ⟨o, ho⟩ : ∃ o, all[j]? = some o := ⟨_, Array.getElem?_eq_getElem hjlt⟩
    have hdep : ∀ e ∈ o.after, Region.binds .any e = true → listedL listed e.on = true := fun e he hb => by
      have hd := hc.depS p j q o hs ho e he hb
      have hlt : e.on < all.size := by
        rcases hd with hd | hd
        · obtain ⟨r, hr, hri⟩ := List.mem_map.1 hd
          have := hc.ops r hr; rw [hri] at this
          exact (Array.getElem?_eq_some_iff.1 this).1
        · exact (hc.disj e.on (by rw [hs]; simp [hd])).1
      exact (hL e.on hlt).2 hd
    have hrd : j ∈ Region.ready .any all listed := ready_of (by omega) hLj ho hdep
    have honly : ∀ i ∈ Region.ready .any all listed, i = j := fun i hi => by
      obtain ⟨h1, h2, oi, h3, h4⟩ := of_ready hi
      have hilt : i < all.size := by omega
      rcases hc.cover i hilt with h5 | h5
      · have := (hL i hilt).2 (.inl h5); rw [h1] at this; cases this
      · rw [hs, List.mem_append, List.mem_cons] at h5
        rcases h5 with h5 | h5 | h5
        · have := (hL i hilt).2 (.inr h5); rw [h1] at this; cases this
        · exact h5
        · exfalso
          obtain ⟨q1, q2, hq⟩ := List.append_of_mem h5
          have hanc := (hc.sufS (p ++ j :: q1) i q2 (by rw [hs, hq]; simp)).1 j (by simp)
          have := anc_in hcl h3 h4 hanc
          rw [hLj] at this; cases this
    cases fuel with
    | zero => have := unlisted_zero (Nat.le_zero.1 hf) (i := j) (by omega); rw [hLj] at this; cases this
    | succ fuel =>
      refine ⟨fun h0 => (by rw [h0] at hrd; cases hrd), fun i hi => ?_⟩
      have := honly i hi; subst this
      have hset : listedL (listed.setIfInBounds i true) = addL (listedL listed) i := listed_set (by omega)
      have hrec : ∀ a w, wpList P all Q' (q.filterMap (all[·]?)) a w → wpAny P .any all Q' fuel (listed.setIfInBounds i true) a w := fun a w hh => by
        refine suf_phase hc q (p ++ [i]) fuel _ a w (by rw [hs]; simp) (by simpa using hsz) ?_ (fun x hx => ?_) ?_ hh
        · rw [hset]; exact hcl.add fun o' ho' => by rw [ho] at ho'; cases ho'; exact hdep
        · rw [hset]; simp only [addL, Bool.or_eq_true, beq_iff_eq, hL x hx, List.mem_append, List.mem_singleton, or_assoc]
        · have := unlisted_set (i := i) (by omega) hLj; omega
      simp only [List.filterMap_cons, ho] at h
      unfold wpOp
      simp only [ho]
      unfold wpList at h
      split at h
      · rename_i hw
        rw [if_pos hw]
        exact h.imp (Oper.wp_mono fun a w hh => hrec a w hh) id
      · rename_i hw
        rw [if_neg hw]
        exact hrec _ _ h

theorem first_un {L : Nat → Bool} : ∀ {l : List (Rec S)}, (∃ r ∈ l, L r.i = false) → ∃ p r q, l = p ++ r :: q ∧ L r.i = false ∧ ∀ x ∈ p, L x.i = true
  | [], h => by obtain ⟨r, hr, _⟩ := h; cases hr
  | r :: l, h => by
    cases hL : L r.i with
    | false => exact ⟨[], r, l, rfl, hL, by simp⟩
    | true =>
      obtain ⟨r', hr', h'⟩ := h
      rcases List.mem_cons.1 hr' with rfl | hr'
      · rw [hL] at h'; cases h'
      · obtain ⟨p, x, q, h1, h2, h3⟩ := first_un ⟨r', hr', h'⟩
        refine ⟨r :: p, x, q, by simp [h1], h2, fun y hy => ?_⟩
        rcases List.mem_cons.1 hy with rfl | hy
        · exact hL
        · exact h3 y hy

/-- The first part: in whatever order. -/
theorem pre_phase {βs : Nat → Nm} (hc : Chk all ms rs suf) (hch : Chain s.n rs) (hrec : ∀ p r q, rs = p ++ r :: q → RecOk P w0 F D0 s all ms p r) {Q' : Exit → Act → World → Prop} (hQ : ∀ c a d v w, Q' (.panic c) (a.put d v) w → Q' (.panic c) a w)
    (hdone : ∀ L D β a w, J w0 F D0 D s βs rs L β a w → (∀ r ∈ rs, L r.i = true) → wpList P all Q' (suf.filterMap (all[·]?)) a w) :
    ∀ (fuel : Nat) (listed : Array Bool) (D : Nat → Prop) (β : Nat → Nm) (a : Act) (w : World), J w0 F D0 D s βs rs (listedL listed) β a w → listed.size = all.size → Closed all (listedL listed) → (∀ i, i < all.size → listedL listed i = true → i ∈ rs.map (·.i)) → unlisted listed ≤ fuel →
      wpAny P .any all Q' fuel listed a w := by
  intro fuel
  induction fuel with
  | zero =>
    intro listed D β a w hj hsz hcl hpre hf
    have hallL : ∀ i, i < all.size → listedL listed i = true := fun i hi => unlisted_zero (Nat.le_zero.1 hf) (by omega)
    have hall : ∀ r ∈ rs, listedL listed r.i = true := fun r hr => hallL r.i (Array.getElem?_eq_some_iff.1 (hc.ops r hr)).1
    exact suf_phase hc suf [] 0 listed a w rfl hsz hcl (fun i hi => ⟨fun h => .inl (hpre i hi h), fun _ => hallL i hi⟩) hf (hdone _ D β a w hj hall)
  | succ fuel ih =>
    intro listed D β a w hj hsz hcl hpre hf
    by_cases hall : ∀ r ∈ rs, listedL listed r.i = true
    · refine suf_phase hc suf [] (fuel + 1) listed a w rfl hsz hcl (fun i hi => ⟨fun h => .inl (hpre i hi h), fun h => ?_⟩) hf (hdone _ D β a w hj hall)
      rcases h with h | h
      · obtain ⟨r, hr, rfl⟩ := List.mem_map.1 h; exact hall r hr
      · cases h
    · have hex : ∃ r ∈ rs, listedL listed r.i = false := by
        apply Classical.byContradiction
        intro hno
        exact hall fun r hr => by
          cases hv : listedL listed r.i with
          | true => rfl
          | false => exact absurd ⟨r, hr, hv⟩ hno
      have hidx : ∀ r ∈ rs, r.i < listed.size := fun r hr => by have := (Array.getElem?_eq_some_iff.1 (hc.ops r hr)).1; omega
      have hdepR : ∀ p r q, rs = p ++ r :: q → (∀ x ∈ p, listedL listed x.i = true) → ∀ e ∈ r.o.after, Region.binds .any e = true → listedL listed e.on = true := fun p r q hr hp e he hb => by
        obtain ⟨x, hx, hxi⟩ := List.mem_map.1 (hc.dep p r q hr e he hb)
        rw [← hxi]; exact hp x hx
      -- the step of one record
      have hstep : ∀ r ∈ rs, listedL listed r.i = false → (∀ e ∈ r.o.after, Region.binds .any e = true → listedL listed e.on = true) → ∀ D' β' a' w', J w0 F D0 D' s βs rs (addL (listedL listed) r.i) β' a' w' → wpAny P .any all Q' fuel (listed.setIfInBounds r.i true) a' w' := fun r hr hL hdep D' β' a' w' hj' => by
        have hro := hc.ops r hr
        have hlt := hidx r hr
        refine ih _ D' β' a' w' (by rw [listed_set hlt]; exact hj') (by simpa using hsz) (by rw [listed_set hlt]; exact hcl.add fun o ho => by rw [hro] at ho; cases ho; exact hdep) (fun i hi h => ?_) (by have := unlisted_set hlt hL; omega)
        rw [listed_set hlt] at h
        simp only [addL, Bool.or_eq_true, beq_iff_eq] at h
        rcases h with h | rfl
        · exact hpre i hi h
        · exact List.mem_map.2 ⟨r, hr, rfl⟩
      have hsee : ∀ p r q, rs = p ++ r :: q → listedL listed r.i = false → (∀ e ∈ r.o.after, Region.binds .any e = true → listedL listed e.on = true) → ∀ t y, lk (pick (slots all r.o) (putAll s.t p)) t = some y → t < s.sz ∧ y.on (NL s rs (listedL listed)) ∧ a.tmps.getD t undef = y.den β :=
        fun p r q hr hL hdep t y hy => hj.seen hc hcl hr hdep hL hy
      have hwf : ∀ i c, lk s.o i = some c → i < s.n := fun i c hi => (hj.wfo i c hi).1
      have hgen : ∀ p r q, rs = p ++ r :: q → listedL listed r.i = false → (∀ e ∈ r.o.after, Region.binds .any e = true → listedL listed e.on = true) → G w0 F D0 D (seenAt s all ms p r.i r.o false) (NL s rs (listedL listed)) β a w ∧ ∀ j, r.n1 ≤ j → j < r.n2 → ¬ NL s rs (listedL listed) j := fun p r q hr h1 h4 => by
        have hrm : r ∈ rs := by rw [hr]; simp
        have hro := hc.ops r hrm
        have hchp : Chain s.n p := by rw [hr] at hch; exact (Chain.append.1 hch).1
        refine ⟨⟨hj.defers, hj.size, fun t y hy => by obtain ⟨h5, h6, _⟩ := hsee p r q hr h1 h4 t y hy; exact ⟨h5, h6⟩, fun t y hy => (hsee p r q hr h1 h4 t y hy).2.2, hj.gh.subO fun u b hb => by
            have hb' : lk (oL (ancM ms r.i) s.o p) u = some b := hb
            rw [lk_oL hchp hwf] at hb'
            refine (lk_oL hch hwf).2 ?_
            rcases hb' with ⟨r', h6, h7, h8⟩ | hb'
            · refine .inl ⟨r', by rw [hr]; simp [h6], ?_, h8⟩
              rw [hc.ms] at h7
              exact anc_in hcl hro h4 h7
            · exact .inr hb'⟩, ?_⟩
        rintro j hj1 hj2 (h6 | ⟨r', h6, h7, h8⟩)
        · have := (hch.mem hrm).1; omega
        · have hne : r'.i ≠ r.i := fun e => by rw [e, h1] at h7; cases h7
          have h6' := h6
          rw [hr] at h6' hch
          rcases List.mem_append.1 h6' with h9 | h9
          · have := hch.before h9; omega
          · rcases List.mem_cons.1 h9 with rfl | h9
            · exact hne rfl
            · have := hch.behind h9; omega
      by_cases hpure : ∃ r ∈ rs, r.pu = true ∧ listedL listed r.i = false ∧ ∀ e ∈ r.o.after, Region.binds .any e = true → listedL listed e.on = true
      · obtain ⟨r, hrm, hpu, hL, hdep⟩ := hpure
        obtain ⟨p, q, hr⟩ := List.append_of_mem hrm
        have hro := hc.ops r hrm
        obtain ⟨hgr, hname⟩ := hgen p r q hr hL hdep
        obtain ⟨β', hnew, hxon, hy⟩ := (hrec p r q hr).pure hpu D _ β a w hgr hname
        refine wpAny_first hro hc.sel (fun c a w h => hQ c a _ _ w h) fuel listed a w (fun j oj hoj hji hun hno => ?_) (ready_of (hidx r hrm) hL hro hdep) hy (hstep r hrm hL hdep D β' _ w (hj.put hc hch hrm (hrec p r q hr).slot hnew hxon))
        refine hc.pure r hrm hpu j oj hoj hji ?_ hno
        cases hv : anc all r.i j with
        | false => rfl
        | true =>
          have := anc_in hcl hro hdep hv
          have hjlt : j < listed.size := by have := (Array.getElem?_eq_some_iff.1 hoj).1; omega
          simp [listedL, hjlt] at this
          simp [hjlt, this] at hun
      · have hnp : ∀ r ∈ rs, listedL listed r.i = false → (∀ e ∈ r.o.after, Region.binds .any e = true → listedL listed e.on = true) → r.pu = false := fun r hr hL hdep => by
          cases hv : r.pu with
          | false => rfl
          | true => exact absurd ⟨r, hr, hv, hL, hdep⟩ hpure
        obtain ⟨p0, r0, q0, hr0, hL0, hp0⟩ := first_un hex
        have hdep0 := hdepR p0 r0 q0 hr0 hp0
        have hpu0 := hnp r0 (by rw [hr0]; simp) hL0 hdep0
        refine ⟨fun h0 => ?_, fun i hi => ?_⟩
        · have := ready_of (hidx r0 (by rw [hr0]; simp)) hL0 (hc.ops r0 (by rw [hr0]; simp)) hdep0
          rw [h0] at this; cases this
        · obtain ⟨h1, h2, o, h3, h4⟩ := of_ready hi
          rcases hc.cover i (by omega) with h5 | h5
          · obtain ⟨r, hrm, rfl⟩ := List.mem_map.1 h5
            obtain ⟨p, q, hr⟩ := List.append_of_mem hrm
            have hro := hc.ops r hrm
            rw [hro] at h3; cases h3
            have hpu := hnp r hrm h1 h4
            obtain ⟨hg, hname⟩ := hgen p r q hr h1 h4
            exact (hrec p r q hr).imp hpu D _ β a w hg hname _ _ fun D' β' w' hn hx => hstep r hrm h1 h4 D' β' _ w' (hj.put hc hch hrm (hrec p r q hr).slot hn hx)
          · exfalso
            obtain ⟨q1, q2, hq⟩ := List.append_of_mem h5
            have hanc := (hc.sufS q1 i q2 hq).2 r0 (by rw [hr0]; simp) hpu0
            have := anc_in hcl h3 h4 hanc
            rw [hL0] at this; cases this

theorem NL_all {L : Nat → Bool} (hch : Chain s.n rs) (hall : ∀ r ∈ rs, L r.i = true) (k : Nat) : NL s rs L k ↔ k < nxt s.n rs := by
  constructor
  · rintro (h | ⟨r, h1, _, h2⟩)
    · exact Nat.lt_of_lt_of_le h hch.le
    · have := (hch.mem h1).2.2.1; omega
  · intro hk
    by_cases h1 : k < s.n
    · exact .inl h1
    · right
      have key : ∀ (n : Nat) (l : List (Rec S)), Chain n l → n ≤ k → k < nxt n l → ∃ r ∈ l, r.n1 ≤ k ∧ k < r.n2 := by
        intro n l
        induction l generalizing n with
        | nil => intro _ h2 h3; simp only [nxt] at h3; omega
        | cons r l ih =>
          rintro ⟨e1, e2, _, e4⟩ h2 h3
          by_cases h4 : k < r.n2
          · exact ⟨r, by simp, by omega, h4⟩
          · obtain ⟨r', h5, h6⟩ := ih r.n2 e4 (by omega) h3
            exact ⟨r', by simp [h5], h6⟩
      obtain ⟨r, h2, h3⟩ := key s.n rs hch (by omega) hk
      exact ⟨r, h2, hall r h2, h3⟩
theorem oL_all {L : Nat → Bool} {o : List (Nat × Own S)} : ∀ {rs : List (Rec S)}, (∀ r ∈ rs, L r.i = true) → oL L o rs = oL (fun _ => true) o rs
  | [], _ => rfl
  | r :: rs, h => by
    simp only [oL, h r (by simp)]
    rw [oL_all fun r' hr' => h r' (by simp [hr'])]

/-- A REGION THAT DRAWS ITS ORDER. -/
theorem VC.draw {Q : Exit → Act → World → Prop} {bn : Nat} {β0 : Nat → Nm} {M : Nat} {k : List It} {id : Nat} (hm : P.follows .mixedOrders = true) (hbn : bn ≤ s.n) (hc : Chk all ms rs suf) (hch : Chain s.n rs) (hrec : ∀ p r q, rs = p ++ r :: q → RecOk P w0 F D0 s all ms p r) (hQ : ∀ c a d v w, Q (.panic c) (a.put d v) w → Q (.panic c) a w)
    (h : VC P Q w0 F D0 bn β0 M (.ops all (suf.filterMap (all[·]?)) :: k) (behind s rs)) : VC P Q w0 F D0 bn β0 M (.code (.region id all true) :: k) s := fun D β a w hβ0 hg => by
  simp only [after]
  have hQ' : ∀ c a d v w, after P M k Q (.panic c) (a.put d v) w → after P M k Q (.panic c) a w := by
    clear h hc hrec hg hβ0 hbn
    intro c a d v w
    induction k with
    | nil => exact hQ c a d v w
    | cons x k ih =>
      cases x <;> simp only [after, Exit.inBlock] <;> first
        | exact ih
        | (cases M <;> simp only [inSc] <;> exact ih)
  have hL0 : ∀ i, listedL (Array.replicate all.size false) i = false := fun i => by simp only [listedL, Array.getD_eq_getD_getElem?, Array.getElem?_replicate]; split <;> rfl
  have hNL : ∀ x, NL s rs (listedL (Array.replicate all.size false)) x ↔ x < s.n := fun x => by
    constructor
    · rintro (h | ⟨_, _, h, _⟩)
      · exact h
      · rw [hL0] at h; cases h
    · exact .inl
  have hoL : ∀ l : List (Rec S), oL (listedL (Array.replicate all.size false)) s.o l = s.o := by
    intro l
    induction l with
    | nil => rfl
    | cons r l ih => simp only [oL, hL0]; exact ih
  refine wp_region_any hm (pre_phase (βs := β) hc hch hrec hQ' (fun L D2 β2 a w hj hall => ?_) all.size _ D β a _ ⟨hg.defers, hg.size, hg.wft, hg.gh.wfo, fun _ _ => rfl, fun u x hu _ => hg.tmps u x hu, fun r _ hL => ?_, ?_⟩ (by simp) (fun j o _ hj => ?_) (fun i _ hi => ?_) ?_)
  · have hgh := hj.gh
    rw [oL_all hall] at hgh
    have hgh2 := GH.mono hgh fun k hk => (NL_all hch hall k).1 hk
    have := h D2 β2 a w (fun i hi => by rw [← hj.agr i (Nat.lt_of_lt_of_le hi hbn)]; exact hβ0 i hi) ⟨hj.defers, hj.size, fun t x hx => ?_, fun t x hx => ?_, hgh2⟩
    · simpa only [after] using this
    all_goals
      simp only [behind] at hx
      rcases lk_putAll hx with ⟨p, r, q, h3, h5, h6⟩ | ⟨h1, h2⟩
    · have hr : r ∈ rs := by rw [h3]; simp
      have h7 := hj.new r hr (hall r hr) t h5
      rw [h6]
      exact ⟨h7.1, on_mono (fun k hk => (NL_all hch hall k).1 hk) h7.2.1⟩
    · have h3 := hj.wft t x h2
      exact ⟨h3.1, on_mono (fun i hi => Nat.lt_of_lt_of_le hi hch.le) h3.2⟩
    · have hr : r ∈ rs := by rw [h3]; simp
      rw [h6]
      exact (hj.new r hr (hall r hr) t h5).2.2
    · exact hj.old t x h2 fun r hr hd => absurd hd (h1 r hr)
  · rw [hL0] at hL; cases hL
  · rw [hoL]
    exact GH.mono (hg.gh.step (w' := { w with drawn := w.drawn + 1 }) ⟨rfl, rfl, rfl, Nat.le_refl _, fun _ _ => rfl⟩) fun k hk => (hNL k).2 hk
  · rw [hL0] at hj; cases hj
  · rw [hL0] at hi; cases hi
  · simp [unlisted]
end
end Go.En
