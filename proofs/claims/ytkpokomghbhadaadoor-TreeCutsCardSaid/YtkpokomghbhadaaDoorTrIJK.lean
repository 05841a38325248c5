/- Two runs side by side: over all the tokens, and over those up to token K. -/
import Derived.Test.YtkpokomghbhadaaDoorTrF
import Derived.Test.YtkpokomghbhadaaDoorTrT
import Derived.Test.YtkpokomghbhadaaDoorAw
set_option maxRecDepth 100000
namespace Go.Proofs.TR
open Go Go.En Go.En.Dop
section
variable {L : List Tok} {K n : Nat}
structure Sim (s : Z L) (s' : Z (L.take K)) : Prop where
 lk : K ≤ L.length
 at_ : s'.at_ = s.at_
 le : s.at_ ≤ K
 N : s'.N = s.N
 T : s'.T = s.T
 top : s'.top = s.top
 deep : s'.deep = s.deep
 e : s.e = 0
 e' : s'.e = 0
def Dm (K : Nat) (s : Z L) : Prop := s.e ≠ 0 ∨ K < s.at_
theorem Dm.step {s t : Z L} (d : Dm K s) (h : Step s t) : Dm K t := by
 rcases d with d | d
 ·exact .inl (by rw [h.err d]; exact d)
 ·exact .inr (Nat.lt_of_lt_of_le d h.at_)
def R {α : Type} (r : α × Z L) (r' : α × Z (L.take K)) : Prop := Dm K r.2 ∨ (Sim r.2 r'.2 ∧ r'.1 = r.1)
def Rel {α : Type} (n : Nat) (f : M L α) (f' : M (L.take K) α) : Prop := ∀ s s', Sim s s' → Dp n s → R (f.run s) (f'.run s')
section
variable {s : Z L} {s' : Z (L.take K)}
theorem Sim.len (h : Sim s s') : (L.take K).length = K := by
 have := h.lk
 rw [List.length_take]; omega
theorem Sim.now (h : Sim s s') (hk : s.at_ < K) : now s' = now s := by
 have hl := h.lk
 unfold TR.now
 rw [if_pos ⟨h.e', by rw [h.at_, h.len]; exact hk⟩, if_pos ⟨h.e, by omega⟩, h.at_]
 rw [List.getD_eq_getElem?_getD, List.getD_eq_getElem?_getD, List.getElem?_take, if_pos hk]
theorem Sim.at_k (h : Sim s s') (hk : K ≤ s.at_) : TR.now s' = noTok (endAt (L.take K)) := by
 unfold TR.now
 refine if_neg fun hh => ?_
 have h2 := hh.2
 rw [h.at_, h.len] at h2
 omega
theorem Sim.is0 (h : Sim s s') (hk : K ≤ s.at_) (x : Str) : isZ x s' = false := by
 unfold isZ; rw [h.at_k hk]; rfl
theorem Sim.is (h : Sim s s') (hk : s.at_ < K) (x : Str) : isZ x s' = isZ x s := by
 unfold isZ; rw [h.now hk]
theorem Sim.bump_dm (_ : Sim s s') (hk : K ≤ s.at_) (hl : s.at_ < L.length) : Dm K (bump s) := .inr (by rw [bump_lt hl]; show K < s.at_ + 1; omega)
theorem Sim.bump (h : Sim s s') (hk : s.at_ < K) : Sim (bump s) (bump s') := by
 have hl := h.lk
 rw [bump_lt (show s.at_ < L.length by omega), bump_lt (show s'.at_ < (L.take K).length by rw [h.at_, h.len]; exact hk)]
 exact ⟨h.lk, by show s'.at_ + 1 = s.at_ + 1; rw [h.at_], hk, h.N, h.T, h.top, h.deep, h.e, h.e'⟩
theorem Pg.dm {α : Type} {f : M L α} (hf : Pg f) (hk : K ≤ s.at_) : Dm K (f.run s).2 := by
 by_cases he : (f.run s).2.e = 0
 ·exact .inr (Nat.lt_of_le_of_lt hk (hf s he))
 ·exact .inl he
theorem Pg.dm2 {α β : Type} {m : M L α} {k : α → M L β} (hm : Pg m) (hf : ∀ x, Pg (k x)) (hk : K ≤ s.at_ + 1) : Dm K ((m >>= k).run s).2 := by
 rw [run_bind]
 by_cases he : ((k (m.run s).1).run (m.run s).2).2.e = 0
 ·have h1 := hf _ _ he
  have h2 := hm s (ok_back he)
  exact .inr (by omega)
 ·exact .inl he
theorem Pg.dm3 {α β γ : Type} {m : M L α} {k : α → M L β} {j : α → β → M L γ} (hm : Pg m) (hf : ∀ x, Pg (k x)) (hj : ∀ x y, Pg (j x y)) (hk : K ≤ s.at_ + 2) : Dm K ((m >>= fun x => k x >>= j x).run s).2 := by
 rw [run_bind, run_bind]
 by_cases he : ((j (m.run s).1 ((k (m.run s).1).run (m.run s).2).1).run ((k (m.run s).1).run (m.run s).2).2).2.e = 0
 ·have h0 := hj _ _ _ he
  have h1 := hf _ _ (ok_back he)
  have h2 := hm s (ok_back (ok_back he))
  exact .inr (by omega)
 ·exact .inl he
theorem R.bind {α β : Type} {f : M L α} {f' : M (L.take K) α} {k : α → M L β} {k' : α → M (L.take K) β} (h : R (f.run s) (f'.run s')) (hk : Sim (f.run s).2 (f'.run s').2 → R ((k (f.run s).1).run (f.run s).2) ((k' (f.run s).1).run (f'.run s').2)) : R ((f >>= k).run s) ((f' >>= k').run s') := by
 rw [run_bind, run_bind]
 rcases h with h | ⟨h1, h2⟩
 ·exact .inl (h.step (M.step _ _))
 ·rw [h2]; exact hk h1
theorem R.take {α : Type} {x : Str} {A B : M L α} {A' B' : M (L.take K) α} (h : Sim s s') (ha : s.at_ < K → Sim (TR.bump s) (TR.bump s') → R (A.run (TR.bump s)) (A'.run (TR.bump s'))) (hb : R (B.run s) (B'.run s')) : R ((TR.take x >>= fun r => if r = true then A else B).run s) ((TR.take x >>= fun r => if r = true then A' else B').run s') := by
 have hit : ∀ {L : List Tok} (s : Z L), isZ x s = true → (TR.take x).run s = (true, TR.bump s) := fun s hz => by
  show (isZ x s, if isZ x s = true then TR.bump s else s) = _
  rw [hz]; rfl
 have mis : ∀ {L : List Tok} (s : Z L), isZ x s = false → (TR.take x).run s = (false, s) := fun s hz => by
  show (isZ x s, if isZ x s = true then TR.bump s else s) = _
  rw [hz]; rfl
 rw [run_bind, run_bind]
 rcases Bool.eq_false_or_eq_true (isZ x s) with hz | hz
 ·rw [hit s hz]
  show R (A.run (TR.bump s)) _
  rcases Nat.lt_or_ge s.at_ K with hk | hk
  ·rw [hit s' ((h.is hk x).trans hz)]
   exact ha hk (h.bump hk)
  ·exact .inl ((h.bump_dm hk (isZ_lt hz).2.1).step (A.step _))
 ·have hz' : isZ x s' = false := by
   rcases Nat.lt_or_ge s.at_ K with hk | hk
   ·rw [h.is hk, hz]
   ·exact h.is0 hk x
  rw [mis s hz, mis s' hz']
  exact hb
theorem R.is {α : Type} {x : Str} {A B : M L α} {A' B' : M (L.take K) α} (h : Sim s s') (hp : Pg A) (ha : R (A.run s) (A'.run s')) (hb : R (B.run s) (B'.run s')) : R ((TR.is x >>= fun r => if r = true then A else B).run s) ((TR.is x >>= fun r => if r = true then A' else B').run s') := by
 rw [run_bind, run_bind]
 show R ((if isZ x s = true then A else B).run s) ((if isZ x s' = true then A' else B').run s')
 rcases Bool.eq_false_or_eq_true (isZ x s) with hz | hz
 ·rw [if_pos hz]
  rcases Nat.lt_or_ge s.at_ K with hk | hk
  ·rw [if_pos ((h.is hk x).trans hz)]
   exact ha
  ·exact .inl (hp.dm hk)
 ·have hz' : isZ x s' = false := by
   rcases Nat.lt_or_ge s.at_ K with hk | hk
   ·rw [h.is hk, hz]
   ·exact h.is0 hk x
  rw [if_neg (by rw [hz]; decide), if_neg (by rw [hz']; decide)]
  exact hb
end
def typesB (s : Z L) : Bool := isZ [105, 110, 116] s || (isZ [117, 110, 115, 105, 103, 110, 101, 100] s || (isZ [99, 104, 97, 114] s || (isZ [118, 111, 105, 100] s || isZ [115, 116, 114, 117, 99, 116] s)))
theorem or_run {x : Str} {m : M L Bool} {b : Bool} {s : Z L} (hm : m.run s = (b, s)) : (is x >>= fun r => if r = true then pure true else m).run s = (isZ x s || b, s) := by
 rw [run_bind]
 show ((if isZ x s = true then pure true else m : M L Bool)).run s = _
 rcases Bool.eq_false_or_eq_true (isZ x s) with hz | hz
 ·rw [if_pos hz, hz, Bool.true_or]; rfl
 ·rw [if_neg (by rw [hz]; decide), hz, Bool.false_or, hm]
theorem types_run (s : Z L) : types.run s = (typesB s, s) := or_run (or_run (or_run (or_run rfl)))
theorem types_bind {α : Type} {k : Bool → M L α} (s : Z L) : (types >>= k).run s = (k (typesB s)).run s := by rw [run_bind, types_run]
section
variable {s : Z L} {s' : Z (L.take K)}
theorem Sim.types (h : Sim s s') (hk : s.at_ < K) : typesB s' = typesB s := by
 unfold typesB; rw [h.is hk, h.is hk, h.is hk, h.is hk, h.is hk]
theorem Sim.types0 (h : Sim s s') (hk : K ≤ s.at_) : typesB s' = false := by
 unfold typesB; rw [h.is0 hk, h.is0 hk, h.is0 hk, h.is0 hk, h.is0 hk]; rfl
theorem R.types {α : Type} {A B : M L α} {A' B' : M (L.take K) α} (h : Sim s s') (hp : Pg A) (ha : R (A.run s) (A'.run s')) (hb : R (B.run s) (B'.run s')) : R ((TR.types >>= fun r => if r = true then A else B).run s) ((TR.types >>= fun r => if r = true then A' else B').run s') := by
 rw [types_bind, types_bind]
 rcases Bool.eq_false_or_eq_true (typesB s) with hz | hz
 ·rw [if_pos hz]
  rcases Nat.lt_or_ge s.at_ K with hk | hk
  ·rw [if_pos ((h.types hk).trans hz)]
   exact ha
  ·exact .inl (hp.dm hk)
 ·have hz' : typesB s' = false := by
   rcases Nat.lt_or_ge s.at_ K with hk | hk
   ·rw [h.types hk, hz]
   ·exact h.types0 hk
  rw [if_neg (by rw [hz]; decide), if_neg (by rw [hz']; decide)]
  exact hb
theorem Sim.cast (h : Sim s s') (hk : s.at_ + 1 < K) : castZ s' = castZ s := by
 have hl := h.lk
 have hb := h.bump (by omega)
 have e : (TR.bump s).at_ = s.at_ + 1 := by rw [bump_lt (show s.at_ < L.length by omega)]
 unfold castZ typesAt
 rw [types_run, types_run, hb.types (by omega), h.is (by omega), decide_eq_true (show s.at_ + 1 < L.length by omega), decide_eq_true (show s'.at_ + 1 < (L.take K).length by rw [h.at_, h.len]; exact hk)]
theorem Sim.cast0 (h : Sim s s') (hk : K ≤ s.at_ + 1) : castZ s' = false := by
 unfold castZ
 rw [decide_eq_false (show ¬ s'.at_ + 1 < (L.take K).length by rw [h.at_, h.len]; omega), Bool.and_false, Bool.false_and]
theorem getTake {i : Nat} (hk : i < K) : (L.take K).getD i d4 = L.getD i d4 := by
 rw [List.getD_eq_getElem?_getD, List.getD_eq_getElem?_getD, List.getElem?_take, if_pos hk]
theorem Sim.named (h : Sim s s') (hk : s.at_ + 1 < K) : namedZ s' = namedZ s := by
 have hl := h.lk
 unfold namedZ
 rw [h.now (by omega), h.at_, decide_eq_true (show s.at_ + 1 < L.length by omega), decide_eq_true (show s.at_ + 1 < (L.take K).length by rw [h.len]; exact hk), getTake hk]
theorem Sim.named0 (h : Sim s s') (hk : K ≤ s.at_ + 1) : namedZ s' = false := by
 unfold namedZ
 rw [decide_eq_false (show ¬ s'.at_ + 1 < (L.take K).length by rw [h.at_, h.len]; omega), Bool.and_false, Bool.false_and]
theorem Sim.struct (h : Sim s s') (hk : s.at_ + 2 < K) : structZ s' = structZ s := by
 have hl := h.lk
 unfold structZ
 rw [h.is (by omega), h.at_, decide_eq_true (show s.at_ + 2 < L.length by omega), decide_eq_true (show s.at_ + 2 < (L.take K).length by rw [h.len]; exact hk), getTake hk]
theorem Sim.struct0 (h : Sim s s') (hk : K ≤ s.at_ + 2) : structZ s' = false := by
 unfold structZ
 rw [decide_eq_false (show ¬ s'.at_ + 2 < (L.take K).length by rw [h.at_, h.len]; omega), Bool.and_false, Bool.false_and]
theorem R.ahead {α : Type} {c c' : Bool} {j : Nat} {A B : M L α} {A' B' : M (L.take K) α} (hc : s.at_ + j < K → c' = c) (hc0 : K ≤ s.at_ + j → c' = false) (hp : K ≤ s.at_ + j → Dm K (A.run s).2) (ha : R (A.run s) (A'.run s')) (hb : R (B.run s) (B'.run s')) : R ((if c = true then A else B).run s) ((if c' = true then A' else B').run s') := by
 rcases Bool.eq_false_or_eq_true c with hz | hz
 ·rw [if_pos hz]
  rcases Nat.lt_or_ge (s.at_ + j) K with hk | hk
  ·rw [if_pos ((hc hk).trans hz)]
   exact ha
  ·exact .inl (hp hk)
 ·have hz' : c' = false := by
   rcases Nat.lt_or_ge (s.at_ + j) K with hk | hk
   ·rw [hc hk, hz]
   ·exact hc0 hk
  rw [if_neg (by rw [hz]; decide), if_neg (by rw [hz']; decide)]
  exact hb
end
section
variable {α β : Type}
theorem Rel.pure (x : α) : Rel (L := L) (K := K) n (Pure.pure x) (Pure.pure x) := fun _ _ h _ => .inr ⟨h, rfl⟩
theorem Rel.bind {f : M L α} {f' : M (L.take K) α} {k : α → M L β} {k' : α → M (L.take K) β} (h : Rel n f f') (hk : ∀ x, Rel n (k x) (k' x)) : Rel n (f >>= k) (f' >>= k') := fun s s' hs d => (h s s' hs d).bind fun h1 => hk _ _ _ h1 (d.step (f.step s))
theorem Rel.ite {c : Prop} [Decidable c] {a b : M L α} {a' b' : M (L.take K) α} (ha : Rel n a a') (hb : Rel n b b') : Rel n (if c then a else b) (if c then a' else b') := by split <;> assumption
theorem Rel.take {x : Str} {A B : M L α} {A' B' : M (L.take K) α} (ha : Rel n A A') (hb : Rel n B B') : Rel n (TR.take x >>= fun r => if r = true then A else B) (TR.take x >>= fun r => if r = true then A' else B') := fun s s' h d => R.take h (fun _ h1 => ha _ _ h1 (d.step (bump_step s))) (hb _ _ h d)
theorem Rel.fail {e : Int} (he : e ≠ 0) : Rel (L := L) (K := K) n (fail e) (fail e) := fun s _ _ _ => .inl (.inl (fail_e he s))
theorem Rel.must {x : Str} : Rel (L := L) (K := K) n (must x) (must x) := Rel.take (Rel.pure ()) (Rel.fail (by decide))
theorem Rel.nowP {k : Tok → M L α} {k' : Tok → M (L.take K) α} (hp : Pg (nowM >>= k)) (hk : ∀ t, Rel n (k t) (k' t)) : Rel n (nowM >>= k) (nowM >>= k') := fun s s' h d => by
 rcases Nat.lt_or_ge s.at_ K with hc | hc
 ·rw [run_now, run_now, h.now hc]
  exact hk _ _ _ h d
 ·exact .inl (hp.dm hc)
end
theorem kind_run (k : Int) (s : Z L) : (kind k).run s = if (now s).kind = k ∧ s.e = 0 then (now s, bump s) else (noTok (now s).at_, failZ 5 s) := by
 show ((if (now s).kind = k ∧ s.e = 0 then _ else _ : M L Tok)).run s = _
 rw [run_ite]; rfl
theorem Rel.kind {k : Int} (hk : k ≠ 0) : Rel (L := L) (K := K) n (kind k) (kind k) := fun s s' h d => by
 rcases Nat.lt_or_ge s.at_ K with hc | hc
 ·rw [kind_run, kind_run, h.now hc, h.e, h.e']
  split
  ·exact .inr ⟨h.bump hc, rfl⟩
  ·exact .inl (.inl (fail_e (by decide : (5 : Int) ≠ 0) s))
 ·exact .inl ((Pg.kind hk).dm hc)
theorem put_run (x : Nde) (s : Z L) : (put x).run s = if s.N.length = 8192 then putZ x (failZ 4 s) else putZ x s := by
 show ((if s.N.length = 8192 then _ else _ : M L Int)).run s = _
 rw [run_ite]; rfl
theorem Rel.put {x : Nde} : Rel (L := L) (K := K) n (put x) (put x) := fun s s' h d => by
 by_cases hc : s.N.length = 8192
 ·rw [put_run, if_pos hc]
  refine .inl (.inl ?_)
  have h4 : (failZ 4 s).e ≠ 0 := fail_e (by decide : (4 : Int) ≠ 0) s
  exact fun hh => h4 ((((putM x).step (failZ 4 s)).err h4).symm.trans hh)
 ·rw [put_run, put_run, if_neg hc, h.N, if_neg hc]
  have hl := s.hN
  unfold putZ
  rw [dif_pos ⟨h.e, by omega⟩, dif_pos ⟨h.e', by rw [h.N]; omega⟩]
  exact .inr ⟨⟨h.lk, h.at_, h.le, by show s'.N ++ [x] = s.N ++ [x]; rw [h.N], h.T, h.top, h.deep, h.e, h.e'⟩, by show ((s'.N.length : Nat) : Int) = _; rw [h.N]⟩
theorem typed_run (x : Typ) (s : Z L) : (typed x).run s = if 0 ≤ idx x s.T 0 then (idx x s.T 0, s) else if s.T.length = 256 then (0, failZ 4 s) else (addT x).run s := by
 show ((if 0 ≤ idx x s.T 0 then _ else if s.T.length = 256 then _ else _ : M L Int)).run s = _
 rw [run_ite, run_ite]; rfl
theorem Rel.typed {x : Typ} : Rel (L := L) (K := K) n (typed x) (typed x) := fun s s' h d => by
 rw [typed_run, typed_run, h.T]
 split
 ·exact .inr ⟨h, rfl⟩
 split
 ·exact .inl (.inl (fail_e (by decide : (4 : Int) ≠ 0) s))
 ·have hl := s.hT
  have e1 : ∀ {L : List Tok} (s : Z L) (hs : s.T.length < 256), (addT x).run s = (((s.T.length : Nat) : Int), { s with T := s.T ++ [x], hT := by simp; omega }) := fun s hs => dif_pos hs
  rw [e1 s (by omega), e1 s' (by rw [h.T]; omega)]
  exact .inr ⟨⟨h.lk, h.at_, h.le, h.N, by show s'.T ++ [x] = s.T ++ [x]; rw [h.T], h.top, h.deep, h.e, h.e'⟩, by show ((s'.T.length : Nat) : Int) = _; rw [h.T]⟩
theorem bump_at {s : Z L} {s' : Z (L.take K)} (h : Sim s s') (hk : s.at_ < K) : (bump s).at_ = s.at_ + 1 := by
 have := h.lk
 rw [bump_lt (show s.at_ < L.length by omega)]
theorem rel_starsL : ∀ (f f' : Nat) (t : Int) (s : Z L) (s' : Z (L.take K)), Sim s s' → Dp n s → K < s.at_ + f → K < s.at_ + f' → R ((starsL f t).run s) ((starsL f' t).run s')
 | 0, _, _, s, _, h, _, hf, _ => absurd h.le (by omega)
 | _ + 1, 0, _, s, _, h, _, _, hf => absurd h.le (by omega)
 | f + 1, f' + 1, t, s, s', h, d, hf, hf' => by
  refine R.take h (fun hk h1 => ?_) (Rel.pure t s s' h d)
  have d1 := d.step (bump_step s)
  refine R.bind (Rel.typed _ _ h1 d1) fun h2 => ?_
  have hs := ((typed ⟨4, t, 0, []⟩).step (bump s)).at_
  have e := bump_at h hk
  exact rel_starsL f f' _ _ _ h2 (d1.step (M.step _ _)) (by omega) (by omega)
theorem run_left {α : Type} (k : Nat → M L α) (s : Z L) : (left >>= k).run s = (k (L.length - s.at_)).run s := rfl
theorem Rel.stars (t : Int) : Rel (L := L) (K := K) n (stars t) (stars t) := fun s s' h d => by
 have := h.lk
 have := h.le
 show R ((starsL (L.length - s.at_ + 1) t).run s) ((starsL ((L.take K).length - s'.at_ + 1) t).run s')
 rw [h.at_, h.len]
 exact rel_starsL _ _ t s s' h d (by omega) (by omega)
theorem Rel.base : Rel (L := L) (K := K) n base base := by
 unfold TR.base
 refine Rel.take (Rel.stars _) (Rel.take (Rel.stars _) (Rel.take (Rel.stars _) (Rel.take (Rel.stars _) ?_)))
 exact Rel.bind Rel.must fun _ => Rel.bind (Rel.kind (by decide)) fun t => Rel.bind Rel.typed fun x => Rel.stars x
theorem Rel.array (t : Int) : Rel (L := L) (K := K) n (array t) (array t) := by
 unfold TR.array
 exact Rel.take (Rel.bind (Rel.kind (by decide)) fun x => Rel.bind Rel.must fun _ => Rel.typed) (Rel.pure t)
theorem Rel.listL : ∀ (l : List Int) (o : Int), Rel (L := L) (K := K) n (listL l o) (listL l o)
 | [], o => Rel.pure o
 | x :: r, o => fun s s' h d => by
  have e : startZ s' x = startZ s x := by unfold startZ; rw [h.N]
  show R ((TR.put { node 20 (startZ s x) with a := x, b := o } >>= fun o => TR.listL r o).run s) ((TR.put { node 20 (startZ s' x) with a := x, b := o } >>= fun o => TR.listL r o).run s')
  rw [e]
  exact Rel.bind Rel.put (fun o => Rel.listL r o) s s' h d
theorem Rel.list (l : List Int) : Rel (L := L) (K := K) n (list l) (list l) := Rel.listL _ _
theorem Rel.takeAny : ∀ (l : List Str), Rel (L := L) (K := K) n (takeAny l) (takeAny l)
 | [] => Rel.pure none
 | x :: r => fun s s' h d => by
  unfold TR.takeAny
  rw [run_now, run_now]
  refine R.take h (fun hk h1 => ?_) (Rel.takeAny r s s' h d)
  rw [h.now hk]
  exact Rel.pure _ _ _ h1 (d.step (bump_step s))
theorem any_at {l : List Str} {s : Z L} {y : Str × Int} (h : ((takeAny l).run s).1 = some y) : s.at_ < ((takeAny l).run s).2.at_ := by
 rcases takeAny_or l s with h1 | ⟨x, _, h1, hb⟩
 ·rw [h1] at h; cases h
 ·rw [h1]
  have := (take_at hb).1
  show s.at_ < ((take x).run s).2.at_
  omega
theorem rel_within0 {f : M L Int} {f' : M (L.take K) Int} : Rel 0 (within f) (within f') := fun s s' h d => by
 have hd := down_deep (s := s) (by have := d.more; omega)
 refine .inl (.inl ?_)
 have e : (within f).run s = (-1, deepZ (downZ s) ((downZ s).deep - 1)) := if_neg hd
 rw [e]
 exact hd
theorem Rel.within {f : M L Int} {f' : M (L.take K) Int} (hf : Rel n f f') : Rel (n + 1) (within f) (within f') := fun s s' h d => by
 by_cases hd : s.deep + 1 ≤ 100
 ·have e1 : downZ s = deepZ s (s.deep + 1) := by unfold downZ; rw [if_neg (by omega)]
  have e2 : downZ s' = deepZ s' (s'.deep + 1) := by unfold downZ; rw [h.deep, if_neg (by omega)]
  have h1 : Sim (downZ s) (downZ s') := by
   rw [e1, e2]
   exact ⟨h.lk, h.at_, h.le, h.N, h.T, h.top, by show s'.deep + 1 = s.deep + 1; rw [h.deep], h.e, h.e'⟩
  have r1 : (TR.within f).run s = ((f.run (downZ s)).1, deepZ (f.run (downZ s)).2 ((f.run (downZ s)).2.deep - 1)) := if_pos h1.e
  have r2 : (TR.within f').run s' = ((f'.run (downZ s')).1, deepZ (f'.run (downZ s')).2 ((f'.run (downZ s')).2.deep - 1)) := if_pos h1.e'
  rw [r1, r2]
  rcases hf _ _ h1 (dp_down d hd) with h2 | ⟨h2, h3⟩
  ·exact .inl h2
  ·exact .inr ⟨⟨h2.lk, h2.at_, h2.le, h2.N, h2.T, h2.top, by show _ - 1 = _ - 1; rw [h2.deep], h2.e, h2.e'⟩, h3⟩
 ·have hd := down_deep (s := s) (by omega)
  refine .inl (.inl ?_)
  have e : (TR.within f).run s = (-1, deepZ (downZ s) ((downZ s).deep - 1)) := if_neg hd
  rw [e]
  exact hd
end
end Go.Proofs.TR
/- Two runs side by side: every function of the parser. -/
set_option maxRecDepth 100000
namespace Go.Proofs.TR
open Go Go.En Go.En.Dop
section
variable {L : List Tok} {K n : Nat}
theorem R.on {α β : Type} {f : M L α} {f' : M (L.take K) α} {k : α → M L β} {k' : α → M (L.take K) β} {s : Z L} {s' : Z (L.take K)} (hf : Rel n f f') (h : Sim s s') (d : Dp n s) (hk : ∀ x (t : Z L) (t' : Z (L.take K)), Sim t t' → Dp n t → Step s t → t = (f.run s).2 → x = (f.run s).1 → R ((k x).run t) ((k' x).run t')) : R ((f >>= k).run s) ((f' >>= k').run s') :=
 R.bind (hf s s' h d) fun h1 => hk _ _ _ h1 (d.step (f.step s)) (f.step s) rfl rfl
theorem Rel.bump : Rel (L := L) (K := K) n bumpM bumpM := fun s s' h d => by
 show R ((), TR.bump s) ((), TR.bump s')
 rcases Nat.lt_or_ge s.at_ K with hk | hk
 ·exact .inr ⟨h.bump hk, rfl⟩
 ·by_cases hl : s.at_ < L.length
  ·exact .inl (h.bump_dm hk hl)
  ·have e1 : TR.bump s = s := dif_neg hl
   have e2 : TR.bump s' = s' := dif_neg (by rw [h.at_, h.len]; omega)
   rw [e1, e2]
   exact .inr ⟨h, rfl⟩
def PgD (n : Nat) (f : M L Int) : Prop := ∀ s, Dp n s → (f.run s).2.e = 0 → s.at_ < (f.run s).2.at_
section
variable {ex cx ux st : M L Int} {ex' cx' ux' st' : M (L.take K) Int}
theorem rel_argsL (hx : Rel n ex ex') (pg : PgD n ex) : ∀ (f f' : Nat) (l : List Int) (s : Z L) (s' : Z (L.take K)), Sim s s' → Dp n s → K < s.at_ + f → K < s.at_ + f' → R ((argsL ex f l).run s) ((argsL ex' f' l).run s')
 | 0, _, _, s, _, h, _, hf, _ => absurd h.le (by omega)
 | _ + 1, 0, _, s, _, h, _, _, hf => absurd h.le (by omega)
 | f + 1, f' + 1, l, s, s', h, d, hf, hf' => by
  refine R.take h (fun hk h1 => Rel.list l _ _ h1 (d.step (bump_step s))) ?_
  rw [run_get, run_get, if_pos h.e, if_pos h.e']
  by_cases hl : 0 < l.length
  ·rw [if_pos hl, if_pos hl]
   refine R.on Rel.must h d fun _ s1 s1' h1 d1 t1 e1 _ => R.on hx h1 d1 fun x s2 s2' h2 d2 t2 e2 _ => ?_
   have p := Pg.must (x := [44]) s (by rw [← e1]; exact h1.e)
   rw [← e1] at p
   have := t2.at_
   exact rel_argsL hx pg f f' _ _ _ h2 d2 (by omega) (by omega)
  ·rw [if_neg hl, if_neg hl]
   refine R.on hx h d fun x s2 s2' h2 d2 t2 e2 _ => ?_
   have p := pg s d (by rw [← e2]; exact h2.e)
   rw [← e2] at p
   exact rel_argsL hx pg f f' _ _ _ h2 d2 (by omega) (by omega)
theorem rel_args (hx : Rel n ex ex') (pg : PgD n ex) : Rel n (args ex) (args ex') := fun s s' h d => by
 have := h.lk
 show R ((argsL ex (L.length - s.at_ + 2) []).run s) ((argsL ex' ((L.take K).length - s'.at_ + 2) []).run s')
 rw [h.at_, h.len]
 exact rel_argsL hx pg _ _ [] s s' h d (by omega) (by omega)
theorem rel_primary (hx : Rel n ex ex') (pg : PgD n ex) : Rel n (primary ex) (primary ex') := by
 unfold primary
 refine Rel.nowP pg_primary fun t => ?_
 refine Rel.ite (Rel.bind Rel.bump fun _ => Rel.put) (Rel.ite (Rel.bind Rel.bump fun _ => Rel.take (Rel.bind (rel_args hx pg) fun _ => Rel.put) Rel.put) ?_)
 refine Rel.take (Rel.bind hx fun a => Rel.bind Rel.must fun _ => Rel.pure a) ?_
 refine Rel.take (Rel.bind Rel.must fun _ => Rel.bind Rel.must fun _ => Rel.put) ?_
 exact Rel.bind Rel.must fun _ => Rel.bind Rel.must fun _ => Rel.bind hx fun _ => Rel.bind Rel.must fun _ => Rel.put
theorem rel_behindL (hx : Rel n ex ex') : ∀ (f f' : Nat) (a : Int) (s : Z L) (s' : Z (L.take K)), Sim s s' → Dp n s → K < s.at_ + f → K < s.at_ + f' → R ((behindL ex f a).run s) ((behindL ex' f' a).run s')
 | 0, _, _, s, _, h, _, hf, _ => absurd h.le (by omega)
 | _ + 1, 0, _, s, _, h, _, _, hf => absurd h.le (by omega)
 | f + 1, f' + 1, a, s, s', h, d, hf, hf' => by
  have d1 := d.step (bump_step s)
  have nx : s.at_ < K → ∀ a (t : Z L) (t' : Z (L.take K)), Sim t t' → Dp n t → Step (bump s) t → R ((behindL ex f a).run t) ((behindL ex' f' a).run t') := fun hk a t t' h2 d2 t2 => by
   have := bump_at h hk
   have := t2.at_
   exact rel_behindL hx f f' a t t' h2 d2 (by omega) (by omega)
  unfold behindL
  rw [run_get, run_get, if_pos h.e, if_pos h.e', run_now, run_now]
  refine R.take h (fun hk h1 => ?_) ?_
  ·rw [h.now hk]
   exact R.on hx h1 d1 fun b s2 s2' h2 d2 t2 _ _ => R.on Rel.must h2 d2 fun _ s3 s3' h3 d3 t3 _ _ => R.on Rel.put h3 d3 fun x s4 s4' h4 d4 t4 _ _ => nx hk x _ _ h4 d4 (t2.trans (t3.trans t4))
  refine R.take h (fun hk h1 => ?_) ?_
  ·rw [h.now hk]
   exact R.on (Rel.kind (by decide)) h1 d1 fun b s2 s2' h2 d2 t2 _ _ => R.on Rel.put h2 d2 fun x s4 s4' h4 d4 t4 _ _ => nx hk x _ _ h4 d4 (t2.trans t4)
  refine R.take h (fun hk h1 => ?_) ?_
  ·rw [h.now hk]
   exact R.on (Rel.kind (by decide)) h1 d1 fun b s2 s2' h2 d2 t2 _ _ => R.on Rel.put h2 d2 fun x s4 s4' h4 d4 t4 _ _ => nx hk x _ _ h4 d4 (t2.trans t4)
  refine R.take h (fun hk h1 => ?_) ?_
  ·rw [h.now hk]
   exact R.on Rel.put h1 d1 fun x s4 s4' h4 d4 t4 _ _ => nx hk x _ _ h4 d4 t4
  refine R.take h (fun hk h1 => ?_) ?_
  ·rw [h.now hk]
   exact R.on Rel.put h1 d1 fun x s4 s4' h4 d4 t4 _ _ => nx hk x _ _ h4 d4 t4
  exact Rel.pure a s s' h d
theorem rel_behind (hx : Rel n ex ex') (a : Int) : Rel n (behind ex a) (behind ex' a) := fun s s' h d => by
 have := h.lk
 show R ((behindL ex (L.length - s.at_ + 2) a).run s) ((behindL ex' ((L.take K).length - s'.at_ + 2) a).run s')
 rw [h.at_, h.len]
 exact rel_behindL hx _ _ a s s' h d (by omega) (by omega)
theorem rel_unary (hx : Rel n ex ex') (hu : Rel n ux ux') (pg : PgD n ex) : Rel n (unary ex ux) (unary ex' ux') := by
 unfold unary
 refine Rel.nowP pg_unary fun t => Rel.bind (Rel.takeAny _) fun r => ?_
 rcases r with _ | ⟨x, y⟩
 ·refine Rel.take (Rel.bind Rel.must fun _ => Rel.bind Rel.base fun b => Rel.bind (Rel.array b) fun y => Rel.bind Rel.must fun _ => Rel.put) fun s s' h d => ?_
  rw [run_get, run_get]
  refine R.ahead (j := 1) h.cast h.cast0 (fun hk => Pg.dm2 Pg.must (fun _ => Pg.l pg_base) hk) ?_ ?_
  ·exact Rel.bind Rel.must (fun _ => Rel.bind Rel.base fun y => Rel.bind Rel.must fun _ => Rel.bind hu fun a => Rel.put) s s' h d
  ·exact Rel.bind (rel_primary hx pg) (fun a => rel_behind hx a) s s' h d
 ·exact Rel.bind hu fun a => Rel.put
theorem rel_binL {sub : M L Int} {sub' : M (L.take K) Int} (hs : Rel n sub sub') (ops : List Str) : ∀ (f f' : Nat) (a : Int) (s : Z L) (s' : Z (L.take K)), Sim s s' → Dp n s → K < s.at_ + f → K < s.at_ + f' → R ((binL sub ops f a).run s) ((binL sub' ops f' a).run s')
 | 0, _, _, s, _, h, _, hf, _ => absurd h.le (by omega)
 | _ + 1, 0, _, s, _, h, _, _, hf => absurd h.le (by omega)
 | f + 1, f' + 1, a, s, s', h, d, hf, hf' => by
  unfold binL
  refine R.on (Rel.takeAny ops) h d fun r s1 s1' h1 d1 t1 e1 er => ?_
  rcases r with _ | ⟨x, y⟩
  ·exact Rel.pure a _ _ h1 d1
  ·have p := any_at er.symm
   rw [← e1] at p
   refine R.on hs h1 d1 fun b s2 s2' h2 d2 t2 _ _ => R.on Rel.put h2 d2 fun c s3 s3' h3 d3 t3 _ _ => ?_
   have := (t2.trans t3).at_
   exact rel_binL hs ops f f' c _ _ h3 d3 (by omega) (by omega)
theorem rel_binary (hx : Rel n ex ex') (hu : Rel n ux ux') (pg : PgD n ex) : ∀ (j : Nat), Rel n (binary ex ux j) (binary ex' ux' j)
 | 0 => rel_unary hx hu pg
 | j + 1 => Rel.bind (rel_binary hx hu pg j) fun a s s' h d => by
  have := h.lk
  show R ((binL (binary ex ux j) (weak.getD (9 - j) []) (L.length - s.at_ + 1) a).run s) ((binL (binary ex' ux' j) (weak.getD (9 - j) []) ((L.take K).length - s'.at_ + 1) a).run s')
  rw [h.at_, h.len]
  exact rel_binL (rel_binary hx hu pg j) _ _ _ a s s' h d (by omega) (by omega)
theorem rel_cond (hx : Rel n ex ex') (hc : Rel n cx cx') (hu : Rel n ux ux') (pg : PgD n ex) : Rel n (cond ex cx ux) (cond ex' cx' ux') := by
 refine Rel.bind (rel_binary hx hu pg 10) fun a s s' h d => ?_
 rw [run_now, run_now]
 refine R.take h (fun hk h1 => ?_) (Rel.pure a s s' h d)
 rw [h.now hk]
 exact Rel.bind hx (fun b => Rel.bind Rel.must fun _ => Rel.bind hc fun c => Rel.put) _ _ h1 (d.step (bump_step s))
theorem rel_assign (hx : Rel n ex ex') (hc : Rel n cx cx') (hu : Rel n ux ux') (pg : PgD n ex) : Rel n (assign ex cx ux) (assign ex' cx' ux') := by
 refine Rel.bind (rel_cond hx hc hu pg) fun a => Rel.bind (Rel.takeAny _) fun r => ?_
 rcases r with _ | ⟨x, y⟩
 ·exact Rel.pure a
 ·exact Rel.bind hx fun b => Rel.put
end
theorem pg_lev (n : Nat) : PgD (L := L) n (within (lev n).1) := fun s d he => pg_within (fun hc => by
 rcases n with _ | n
 ·exact absurd hc (down_deep (by have := d.more; omega))
 ·exact pg_assign) he
theorem rel_lev : ∀ (n : Nat), Rel (L := L) (K := K) n (within (lev n).1) (within (lev n).1) ∧ Rel (L := L) (K := K) n (within (lev n).2.1) (within (lev n).2.1) ∧ Rel (L := L) (K := K) n (within (lev n).2.2) (within (lev n).2.2)
 | 0 => ⟨rel_within0, rel_within0, rel_within0⟩
 | n + 1 => by
  obtain ⟨h1, h2, h3⟩ := rel_lev n
  exact ⟨Rel.within (rel_assign h1 h2 h3 (pg_lev n)), Rel.within (rel_cond h1 h2 h3 (pg_lev n)), Rel.within (rel_unary h1 h3 (pg_lev n))⟩
theorem rel_expr (n : Nat) : Rel (L := L) (K := K) n (expr n) (expr n) := (rel_lev n).1
section
variable {ex st : M L Int} {ex' st' : M (L.take K) Int}
theorem rel_head (hx : Rel n ex ex') : Rel n (head ex) (head ex') := Rel.bind Rel.must fun _ => Rel.bind hx fun a => Rel.bind Rel.must fun _ => Rel.pure a
theorem rel_maybe (hx : Rel n ex ex') (x : Str) : Rel n (maybe ex x) (maybe ex' x) := Rel.take (Rel.pure _) (Rel.bind hx fun a => Rel.bind Rel.must fun _ => Rel.pure a)
theorem rel_blockL (hs : Rel n st st') (pg : PgD n st) : ∀ (f f' : Nat) (l : List Int) (s : Z L) (s' : Z (L.take K)), Sim s s' → Dp n s → K < s.at_ + f → K < s.at_ + f' → R ((blockL st f l).run s) ((blockL st' f' l).run s')
 | 0, _, _, s, _, h, _, hf, _ => absurd h.le (by omega)
 | _ + 1, 0, _, s, _, h, _, _, hf => absurd h.le (by omega)
 | f + 1, f' + 1, l, s, s', h, d, hf, hf' => by
  refine R.take h (fun hk h1 => Rel.list l _ _ h1 (d.step (bump_step s))) ?_
  rw [run_get, run_get, if_pos h.e, if_pos h.e']
  refine R.on hs h d fun x s2 s2' h2 d2 t2 e2 _ => ?_
  have p := pg s d (by rw [← e2]; exact h2.e)
  rw [← e2] at p
  exact rel_blockL hs pg f f' _ _ _ h2 d2 (by omega) (by omega)
theorem rel_block (hs : Rel n st st') (pg : PgD n st) : Rel n (block st) (block st') := by
 unfold block
 refine Rel.nowP pg_block fun t => Rel.bind Rel.must fun _ s s' h d => ?_
 have := h.lk
 rw [run_left, run_left, h.at_, h.len]
 exact R.bind (rel_blockL hs pg _ _ [] s s' h d (by omega) (by omega)) fun h1 => Rel.put _ _ h1 (d.step (M.step _ s))
theorem rel_one (hx : Rel n ex ex') (hs : Rel n st st') (pg : PgD n st) : Rel n (one ex st) (one ex' st') := by
 have hB := rel_block hs pg
 unfold one
 refine Rel.nowP pg_one fun t s s' h d => R.is h pg_block (hB s s' h d) ((show Rel n _ _ from ?_) s s' h d)
 refine Rel.take Rel.put fun s s' h d => R.types h (Pg.l pg_base) ((show Rel n _ _ from ?_) s s' h d) ((show Rel n _ _ from ?_) s s' h d)
 ·refine Rel.bind Rel.base fun b => Rel.bind (Rel.kind (by decide)) fun x => Rel.bind (Rel.array b) fun y => ?_
  exact Rel.take (Rel.bind hx fun a => Rel.bind Rel.must fun _ => Rel.put) (Rel.bind Rel.must fun _ => Rel.put)
 refine Rel.take (Rel.bind (rel_head hx) fun a => Rel.bind hs fun b => Rel.take (Rel.bind hs fun c => Rel.put) Rel.put) ?_
 refine Rel.take (Rel.bind (rel_head hx) fun a => Rel.bind hs fun b => Rel.put) ?_
 refine Rel.take (Rel.bind hs fun b => Rel.bind Rel.must fun _ => Rel.bind (rel_head hx) fun a => Rel.bind Rel.must fun _ => Rel.put) ?_
 refine Rel.take (Rel.bind Rel.must fun _ => Rel.bind (rel_maybe hx _) fun a => Rel.bind (rel_maybe hx _) fun b => Rel.bind (rel_maybe hx _) fun c => Rel.bind hs fun d => Rel.put) ?_
 refine Rel.take (Rel.bind Rel.must fun _ => Rel.put) ?_
 refine Rel.take (Rel.bind Rel.must fun _ => Rel.put) ?_
 refine Rel.take (Rel.bind (rel_maybe hx _) fun a => Rel.put) ?_
 refine Rel.take (Rel.bind (Rel.kind (by decide)) fun x => Rel.bind Rel.must fun _ => Rel.put) ?_
 refine Rel.take (Rel.bind (rel_head hx) fun a => Rel.bind hB fun b => Rel.put) ?_
 refine Rel.take (Rel.take (Rel.bind (Rel.kind (by decide)) fun x => Rel.bind Rel.must fun _ => Rel.bind hs fun a => Rel.put) (Rel.bind (Rel.kind (by decide)) fun x => Rel.bind Rel.must fun _ => Rel.bind hs fun a => Rel.put)) ?_
 refine Rel.take (Rel.bind Rel.must fun _ => Rel.bind hs fun a => Rel.put) fun s s' h d => ?_
 rw [run_get, run_get]
 refine R.ahead (j := 1) h.named h.named0 (fun hk => Pg.dm2 (Pg.kind (by decide)) (fun _ => Pg.l Pg.must) hk) ?_ ?_
 ·exact Rel.bind (Rel.kind (by decide)) (fun x => Rel.bind Rel.must fun _ => Rel.bind hs fun a => Rel.put) s s' h d
 ·exact Rel.bind hx (fun a => Rel.bind Rel.must fun _ => Rel.put) s s' h d
end
theorem pg_stmt (n : Nat) : PgD (L := L) n (stmt n) := fun s d he => pg_within (fun hc => by
 rcases n with _ | n
 ·exact absurd hc (down_deep (by have := d.more; omega))
 ·exact pg_one) he
theorem rel_stmt : ∀ (n : Nat), Rel (L := L) (K := K) n (stmt n) (stmt n)
 | 0 => rel_within0
 | n + 1 => Rel.within (rel_one (rel_expr n) (rel_stmt n) (pg_stmt n))
theorem rel_param : Rel (L := L) (K := K) n param param := by
 unfold param
 exact Rel.nowP (Pg.r fun _ => Pg.l pg_base) fun t => Rel.bind Rel.base fun b => Rel.bind (Rel.kind (by decide)) fun x => Rel.pure _
theorem rel_field : Rel (L := L) (K := K) n field field := Rel.bind rel_param fun f => Rel.bind (Rel.array _) fun y => Rel.bind Rel.must fun _ => Rel.put
theorem rel_fieldsL : ∀ (f f' : Nat) (l : List Int) (s : Z L) (s' : Z (L.take K)), Sim s s' → Dp n s → K < s.at_ + f → K < s.at_ + f' → R ((fieldsL f l).run s) ((fieldsL f' l).run s')
 | 0, _, _, s, _, h, _, hf, _ => absurd h.le (by omega)
 | _ + 1, 0, _, s, _, h, _, _, hf => absurd h.le (by omega)
 | f + 1, f' + 1, l, s, s', h, d, hf, hf' => by
  have go : R ((field >>= fun x => getZ >>= fun s => if s.e = 0 then fieldsL f (l ++ [x]) else pure none).run s) ((field >>= fun x => getZ >>= fun s => if s.e = 0 then fieldsL f' (l ++ [x]) else pure none).run s') := by
   refine R.on rel_field h d fun x s1 s1' h1 d1 t1 e1 _ => ?_
   have p := pg_field s (by rw [← e1]; exact h1.e)
   rw [← e1] at p
   rw [run_get, run_get, if_pos h1.e, if_pos h1.e']
   exact rel_fieldsL f f' _ _ _ h1 d1 (by omega) (by omega)
  rw [fieldsL_s, fieldsL_s]
  by_cases hl : l.length = 0
  ·rw [if_pos hl, if_pos hl]
   exact go
  ·rw [if_neg hl, if_neg hl]
   refine R.take h (fun hk h1 => Rel.pure _ _ _ h1 (d.step (bump_step s))) ?_
   rw [run_get, run_get, if_pos h.e, if_pos h.e']
   exact go
theorem rel_paramsL : ∀ (f f' : Nat) (l : List Int) (s : Z L) (s' : Z (L.take K)), Sim s s' → Dp n s → K < s.at_ + f → K < s.at_ + f' → R ((paramsL f l).run s) ((paramsL f' l).run s')
 | 0, _, _, s, _, h, _, hf, _ => absurd h.le (by omega)
 | _ + 1, 0, _, s, _, h, _, _, hf => absurd h.le (by omega)
 | f + 1, f' + 1, l, s, s', h, d, hf, hf' => by
  refine R.take h (fun hk h1 => Rel.pure l _ _ h1 (d.step (bump_step s))) ?_
  rw [run_get, run_get, if_pos h.e, if_pos h.e']
  have go : ∀ s1 s1', Sim s1 s1' → Dp n s1 → Step s s1 → R ((param >>= fun p => put p >>= fun x => paramsL f (l ++ [x])).run s1) ((param >>= fun p => put p >>= fun x => paramsL f' (l ++ [x])).run s1') := fun s1 s1' h1 d1 t1 => by
   refine R.on rel_param h1 d1 fun p s2 s2' h2 d2 t2 e2 _ => R.on Rel.put h2 d2 fun x s3 s3' h3 d3 t3 _ _ => ?_
   have p := pg_param s1 (by rw [← e2]; exact h2.e)
   rw [← e2] at p
   have := t1.at_
   have := t3.at_
   exact rel_paramsL f f' _ _ _ h3 d3 (by omega) (by omega)
  by_cases hl : 0 < l.length
  ·rw [if_pos hl, if_pos hl]
   exact R.on Rel.must h d fun _ s1 s1' h1 d1 t1 _ _ => go _ _ h1 d1 t1
  ·rw [if_neg hl, if_neg hl]
   exact go _ _ h d (Step.refl s)
end
end Go.Proofs.TR
/- TreeCuts is true of every text. -/
set_option maxRecDepth 100000
namespace Go.Proofs.TR
open Go Go.En Go.En.Dop
section
variable {L : List Tok} {K n : Nat}
def NoTok (K : Nat) (L : List Tok) : Prop := ∀ i, K < i → (L.getD i d4).kind = 0
def Dead {α : Type} (K : Nat) (m : M L α) : Prop := ∀ t, K < t.at_ → (m.run t).2.e ≠ 0
section
variable {α β : Type}
theorem err_run {m : M L α} {t : Z L} (h : t.e ≠ 0) : (m.run t).2.e ≠ 0 := by rw [(m.step t).err h]; exact h
theorem no_now (hE : NoTok K L) {t : Z L} (h : K < t.at_) : (now t).kind = 0 := by
 unfold now
 split
 ·exact hE _ h
 ·rfl
theorem kind0_is {t : Z L} (h : (now t).kind = 0) (x : Str) : isZ x t = false := by
 unfold isZ; rw [h]; rfl
theorem run_take {x : Str} {t : Z L} (h : (now t).kind = 0) {A B : M L α} : (take x >>= fun r => if r = true then A else B).run t = B.run t := by
 rw [run_bind]
 have e : (take x).run t = (false, t) := by
  show (isZ x t, if isZ x t = true then bump t else t) = _
  rw [kind0_is h]; rfl
 rw [e]; rfl
theorem Dead.l {m : M L α} {k : α → M L β} (h : Dead K m) : Dead K (m >>= k) := fun t ht => by
 rw [run_bind]; exact err_run (h t ht)
theorem Dead.r {m : M L α} {k : α → M L β} (h : ∀ x, Dead K (k x)) : Dead K (m >>= k) := fun t ht => h _ _ (Nat.lt_of_lt_of_le ht (m.step t).at_)
theorem Dead.take (hE : NoTok K L) {x : Str} {A B : M L α} (hB : Dead K B) : Dead K (TR.take x >>= fun r => if r = true then A else B) := fun t ht => by
 rw [run_take (no_now hE ht)]; exact hB t ht
theorem Dead.must (hE : NoTok K L) {x : Str} : Dead (L := L) K (must x) := Dead.take hE fun t _ => fail_e (by decide : (5 : Int) ≠ 0) t
theorem Dead.kind (hE : NoTok K L) {k : Int} (hk : k ≠ 0) : Dead (L := L) K (kind k) := fun t ht => by
 rw [kind_run, if_neg (fun hh => hk (hh.1.symm.trans (no_now hE ht)))]
 exact fail_e (by decide : (5 : Int) ≠ 0) t
end
theorem blockL_s {L : List Tok} (st : M L Int) (f : Nat) (l : List Int) : (blockL st (f + 1) l : M L _) = (take [125] >>= fun b => if b = true then list l else getZ >>= fun s => if s.e = 0 then st >>= fun x => blockL st f (l ++ [x]) else list l) := id rfl
section
variable (hE : NoTok K L)
include hE
theorem dead_base : Dead (L := L) K base := by
 unfold base
 exact Dead.take hE (Dead.take hE (Dead.take hE (Dead.take hE (Dead.l (Dead.must hE)))))
theorem dead_param : Dead (L := L) K param := Dead.r fun _ => Dead.l (dead_base hE)
theorem dead_field : Dead (L := L) K field := Dead.l (dead_param hE)
theorem dead_block {st : M L Int} : Dead K (block st) := Dead.r fun _ => Dead.l (Dead.must hE)
theorem dead_blockL {st : M L Int} (pg : PgD n st) : ∀ (f : Nat) (l : List Int) (t : Z L), Dp n t → K < t.at_ → L.length < t.at_ + f → ((blockL st f l).run t).2.e ≠ 0
 | 0, _, t, _, _, hf => absurd t.hat (by omega)
 | f + 1, l, t, d, ht, hf => by
  by_cases he : t.e = 0
  ·have e : (blockL st (f + 1) l).run t = (blockL st f (l ++ [(st.run t).1])).run (st.run t).2 := by
    rw [blockL_s, run_take (no_now hE ht), run_get, if_pos he, run_bind]
   rw [e]
   by_cases h2 : (st.run t).2.e = 0
   ·have := pg t d h2
    exact dead_blockL pg f _ _ (d.step (st.step t)) (by omega) (by omega)
   ·exact err_run h2
  ·exact err_run he
theorem dead_fields (f : Nat) : Dead (L := L) K (fieldsL (f + 1) []) := by
 rw [fieldsL_s, if_pos (show ([] : List Int).length = 0 from rfl)]
 exact Dead.l (dead_field hE)
end
theorem fields_none : ∀ (f : Nat) (l : List Int) (t : Z L), ((fieldsL f l).run t).1 = none → ((fieldsL f l).run t).2.e ≠ 0
 | 0, l, t, h => by cases h
 | f + 1, l, t, h => by
  have go : ∀ t : Z L, ((field >>= fun x => getZ >>= fun s => if s.e = 0 then fieldsL f (l ++ [x]) else pure none).run t).1 = none → ((field >>= fun x => getZ >>= fun s => if s.e = 0 then fieldsL f (l ++ [x]) else pure none).run t).2.e ≠ 0 := fun t ht => by
   rw [run_bind, run_get] at ht ⊢
   by_cases he : (field.run t).2.e = 0
   ·rw [if_pos he] at ht ⊢
    exact fields_none f _ _ ht
   ·rw [if_neg he]
    exact he
  rw [fieldsL_s] at h ⊢
  by_cases hl : l.length = 0
  ·rw [if_pos hl] at h ⊢
   exact go t h
  ·rw [if_neg hl] at h ⊢
   rw [run_bind] at h ⊢
   rcases Bool.eq_false_or_eq_true ((take [125]).run t).1 with hb | hb
   ·rw [if_pos hb] at h
    cases h
   ·rw [if_neg (by rw [hb]; decide), run_get] at h ⊢
    by_cases he : ((take [125]).run t).2.e = 0
    ·rw [if_pos he] at h ⊢
     exact go _ h
    ·rw [if_neg he] at h
     cases h
def Ka {α : Type} (m : M L α) : Prop := ∀ t, (m.run t).2.at_ = t.at_
theorem Ka.bind {α β : Type} {m : M L α} {k : α → M L β} (h : Ka m) (hk : ∀ x, Ka (k x)) : Ka (m >>= k) := fun t => (hk _ _).trans (h t)
theorem failZ_at (e : Int) (t : Z L) : (failZ e t).at_ = t.at_ := by unfold failZ; split <;> rfl
theorem Ka.put {x : Nde} : Ka (L := L) (put x) := fun t => by
 have h : ∀ t : Z L, (putZ x t).2.at_ = t.at_ := fun t => by unfold putZ; split <;> rfl
 rw [put_run]
 split
 ·exact (h _).trans (failZ_at 4 t)
 ·exact h t
theorem Ka.listL : ∀ (l : List Int) (o : Int), Ka (L := L) (listL l o)
 | [], _ => fun _ => rfl
 | x :: r, o => Ka.bind (fun _ => rfl) fun _ => Ka.bind Ka.put fun o => Ka.listL r o
theorem Ka.list (l : List Int) : Ka (L := L) (list l) := Ka.listL _ _
def RC (r : Int × Z L) (r' : Int × Z (L.take K)) : Prop := r.2.e ≠ 0 ∨ (K < r.2.at_ ∧ r'.2.e = 5) ∨ (Sim r.2 r'.2 ∧ r'.1 = r.1)
theorem keep5 {α : Type} {L : List Tok} {m : M L α} {t : Z L} (h : t.e = 5) : (m.run t).2.e = 5 := by
 rw [(m.step t).err (by rw [h]; decide), h]
section
variable {s : Z L} {s' : Z (L.take K)}
theorem RC.bind {α : Type} {f : M L α} {f' : M (L.take K) α} {k : α → M L Int} {k' : α → M (L.take K) Int} (h : R (f.run s) (f'.run s')) (hk : Sim (f.run s).2 (f'.run s').2 → RC ((k (f.run s).1).run (f.run s).2) ((k' (f.run s).1).run (f'.run s').2)) (hd : (f.run s).2.e = 0 → K < (f.run s).2.at_ → ((k (f.run s).1).run (f.run s).2).2.e ≠ 0) : RC ((f >>= k).run s) ((f' >>= k').run s') := by
 rw [run_bind, run_bind]
 rcases h with h | ⟨h1, h2⟩
 ·refine .inl ?_
  by_cases he : (f.run s).2.e = 0
  ·exact hd he (h.resolve_left fun hh => hh he)
  ·exact err_run he
 ·rw [h2]; exact hk h1
theorem RC.on {α : Type} {f : M L α} {f' : M (L.take K) α} {k : α → M L Int} {k' : α → M (L.take K) Int} (hf : Rel n f f') (h : Sim s s') (d : Dp n s) (hk : ∀ x (t : Z L) (t' : Z (L.take K)), Sim t t' → Dp n t → RC ((k x).run t) ((k' x).run t')) (hd : ∀ x, Dead K (k x)) : RC ((f >>= k).run s) ((f' >>= k').run s') :=
 RC.bind (hf s s' h d) (fun h1 => hk _ _ _ h1 (d.step (f.step s))) fun _ ha => hd _ _ ha
theorem RC.then {f : M L Int} {f' : M (L.take K) Int} {k : Int → M L Int} {k' : Int → M (L.take K) Int} (d : Dp n s) (h : RC (f.run s) (f'.run s')) (hk : ∀ x, Rel n (k x) (k' x)) (hs : ∀ x, Ka (k x)) : RC ((f >>= k).run s) ((f' >>= k').run s') := by
 rw [run_bind, run_bind]
 rcases h with h | ⟨h1, h2⟩ | ⟨h1, h2⟩
 ·exact .inl (err_run h)
 ·exact .inr (.inl ⟨by rw [hs]; exact h1, keep5 h2⟩)
 ·rw [h2]
  rcases hk (f.run s).1 _ _ h1 (d.step (f.step s)) with (h3 | h3) | h3
  ·exact .inl h3
  ·rw [hs] at h3
   exact absurd h1.le (by omega)
  ·exact .inr (.inr h3)
theorem RC.take {x : Str} {A B : M L Int} {A' B' : M (L.take K) Int} (h : Sim s s') (ha : s.at_ < K → Sim (bump s) (bump s') → RC (A.run (bump s)) (A'.run (bump s'))) (hA : Dead K A) (hb : RC (B.run s) (B'.run s')) : RC ((TR.take x >>= fun r => if r = true then A else B).run s) ((TR.take x >>= fun r => if r = true then A' else B').run s') := by
 have hit : ∀ {L : List Tok} (s : Z L), isZ x s = true → (TR.take x).run s = (true, bump s) := fun s hz => by
  show (isZ x s, if isZ x s = true then bump s else s) = _
  rw [hz]; rfl
 have mis : ∀ {L : List Tok} (s : Z L), isZ x s = false → (TR.take x).run s = (false, s) := fun s hz => by
  show (isZ x s, if isZ x s = true then bump s else s) = _
  rw [hz]; rfl
 rw [run_bind, run_bind]
 rcases Bool.eq_false_or_eq_true (isZ x s) with hz | hz
 ·rw [hit s hz]
  show RC (A.run (bump s)) _
  rcases Nat.lt_or_ge s.at_ K with hk | hk
  ·rw [hit s' ((h.is hk x).trans hz)]
   exact ha hk (h.bump hk)
  ·have hl := isZ_lt hz
   exact .inl (hA _ (by rw [bump_lt hl.2.1]; show K < s.at_ + 1; omega))
 ·have hz' : isZ x s' = false := by
   rcases Nat.lt_or_ge s.at_ K with hk | hk
   ·rw [h.is hk, hz]
   ·exact h.is0 hk x
  rw [mis s hz, mis s' hz']
  exact hb
end
theorem must_run (x : Str) (s : Z L) : (must x).run s = if isZ x s = true then ((), bump s) else ((), failZ 5 s) := by
 show ((if isZ x s = true then pure () else fail 5 : M L Unit)).run (if isZ x s = true then bump s else s) = _
 split <;> rfl
theorem fail5 {L : List Tok} {s : Z L} (h : s.e = 0) : (failZ 5 s).e = 5 := by unfold failZ; rw [if_pos h]
theorem RC.last {s : Z L} {s' : Z (L.take K)} {x : Str} {P : M L Int} {P' : M (L.take K) Int} (h : Sim s s') (d : Dp n s) (hP : Rel n P P') (hs : Ka P) : RC ((must x >>= fun _ => P).run s) ((must x >>= fun _ => P').run s') := by
 have hP1 : ∀ _ : Unit, Rel n P P' := fun _ => hP
 rcases Nat.lt_or_ge s.at_ K with hk | hk
 ·have e : ((must x >>= fun _ => P).run s).2.at_ ≤ s.at_ + 1 := by
   rw [run_bind, hs, must_run]
   split
   ·show (bump s).at_ ≤ _
    rw [bump_at h hk]; exact Nat.le_refl _
   ·show (failZ 5 s).at_ ≤ _
    rw [failZ_at]; omega
  rcases Rel.bind Rel.must hP1 s s' h d with (h3 | h3) | h3
  ·exact .inl h3
  ·exact absurd h3 (by omega)
  ·exact .inr (.inr h3)
 ·rw [run_bind, run_bind, must_run, must_run, if_neg (by rw [h.is0 hk]; decide : ¬ isZ x s' = true)]
  split
  ·rename_i hz
   refine .inr (.inl ⟨?_, keep5 (fail5 h.e')⟩)
   rw [hs]
   show K < (bump s).at_
   rw [bump_lt (isZ_lt hz).2.1]
   show K < s.at_ + 1
   omega
  ·exact .inl (err_run (fail_e (by decide : (5 : Int) ≠ 0) s))
section
variable {st : M L Int} {st' : M (L.take K) Int}
theorem rc_blockL (hE : NoTok K L) (hs : Rel n st st') (pg : PgD n st) {d0 : Int} (h5 : ∀ t : Z (L.take K), (L.take K).length ≤ t.at_ → t.e = 0 → t.deep = d0 → (st'.run t).2.e = 5) : ∀ (f f' : Nat) (l : List Int) (s : Z L) (s' : Z (L.take K)), Sim s s' → Dp n s → s.deep = d0 → L.length < s.at_ + f → K < s.at_ + f' → RC ((blockL st f l).run s) ((blockL st' f' l).run s')
 | 0, _, _, s, _, h, _, _, hf, _ => absurd s.hat (by omega)
 | _ + 1, 0, _, s, _, h, _, _, _, hf => absurd h.le (by omega)
 | f + 1, f' + 1, l, s, s', h, d, hd0, hf, hf' => by
  have hit : ∀ {L : List Tok} {st : M L Int} {s : Z L} {f : Nat}, isZ [125] s = true → (blockL st (f + 1) l).run s = (list l).run (bump s) := fun {L st s f} hz => by
   rw [blockL_s, run_bind]
   show ((if isZ [125] s = true then _ else _ : M L Int)).run (if isZ [125] s = true then bump s else s) = _
   rw [if_pos hz, if_pos hz]
  have mis : ∀ {L : List Tok} {st : M L Int} {s : Z L} {f : Nat}, isZ [125] s = false → s.e = 0 → (blockL st (f + 1) l).run s = (blockL st f (l ++ [(st.run s).1])).run (st.run s).2 := fun {L st s f} hz he => by
   rw [blockL_s, run_bind]
   show ((if isZ [125] s = true then _ else _ : M L Int)).run (if isZ [125] s = true then bump s else s) = _
   rw [if_neg (by rw [hz]; decide), if_neg (by rw [hz]; decide), run_get, if_pos he, run_bind]
  rcases Bool.eq_false_or_eq_true (isZ [125] s) with hz | hz
  ·rw [hit hz]
   rcases Nat.lt_or_ge s.at_ K with hk | hk
   ·rw [hit ((h.is hk _).trans hz)]
    rcases Rel.list l _ _ (h.bump hk) (d.step (bump_step s)) with (h3 | h3) | h3
    ·exact .inl h3
    ·rw [Ka.list, bump_at h hk] at h3
     exact absurd h3 (by omega)
    ·exact .inr (.inr h3)
   ·rw [mis (h.is0 hk _) h.e']
    refine .inr (.inl ⟨?_, keep5 (h5 s' (by rw [h.at_, h.len]; exact hk) h.e' (h.deep.trans hd0))⟩)
    rw [Ka.list, bump_lt (isZ_lt hz).2.1]
    show K < s.at_ + 1
    omega
  ·have hz' : isZ [125] s' = false := by
    rcases Nat.lt_or_ge s.at_ K with hk | hk
    ·rw [h.is hk, hz]
    ·exact h.is0 hk _
   rw [mis hz h.e, mis hz' h.e']
   have hd := d.step (st.step s)
   rcases hs s s' h d with h3 | ⟨h3, h4⟩
   ·by_cases he : (st.run s).2.e = 0
    ·have := (st.step s).at_
     exact .inl (dead_blockL hE pg f _ _ hd (h3.resolve_left fun hh => hh he) (by have := pg s d he; omega))
    ·exact .inl (err_run he)
   ·rw [h4]
    have := pg s d h3.e
    exact rc_blockL hE hs pg h5 f f' _ _ _ h3 hd (((st.step s).deep).trans hd0) (by omega) (by omega)
theorem rc_block (hE : NoTok K L) (hs : Rel n st st') (pg : PgD n st) {d0 : Int} (h5 : ∀ t : Z (L.take K), (L.take K).length ≤ t.at_ → t.e = 0 → t.deep = d0 → (st'.run t).2.e = 5) {s : Z L} {s' : Z (L.take K)} (h : Sim s s') (d : Dp n s) (hd0 : s.deep = d0) : RC ((block st).run s) ((block st').run s') := by
 unfold block
 rw [run_now, run_now]
 have hd : ∀ (x : Nde) (t : Z L), Dp n t → K < t.at_ → ((left >>= fun f => blockL st (f + 2) [] >>= fun a => put { x with a := a }).run t).2.e ≠ 0 := fun x t dt ht => by
  rw [run_left, run_bind]
  exact err_run (dead_blockL hE pg _ _ _ dt ht (by omega))
 rcases Nat.lt_or_ge s.at_ K with hk | hk
 ·rw [h.now hk]
  refine RC.bind (Rel.must s s' h d) (fun h1 => ?_) fun _ ha => hd (node 43 (now s).at_) _ (d.step (M.step _ s)) ha
  have d1 := d.step ((must [123]).step s)
  have := h1.lk
  rw [run_left, run_left, h1.at_, h1.len]
  exact RC.then d1 (rc_blockL hE hs pg h5 _ _ [] _ _ h1 d1 ((((must [123]).step s).deep).trans hd0) (by omega) (by omega)) (fun _ => Rel.put) fun _ => Ka.put
 ·refine .inl ?_
  rw [run_bind]
  by_cases he : ((must [123]).run s).2.e = 0
  ·exact hd (node 43 (now s).at_) _ (d.step (M.step _ s)) (Nat.lt_of_le_of_lt hk (Pg.must s he))
  ·exact err_run he
end
def Five {α : Type} (L : List Tok) (d : Int) (m : M L α) : Prop := ∀ t, L.length ≤ t.at_ → t.e = 0 → t.deep = d → (m.run t).2.e = 5
section
variable {α β : Type} {d : Int}
theorem end_now {t : Z L} (h : L.length ≤ t.at_) : now t = noTok (endAt L) := if_neg fun hh => absurd hh.2 (by omega)
theorem end_kind {t : Z L} (h : L.length ≤ t.at_) : (now t).kind = 0 := by rw [end_now h]; rfl
theorem Five.l {m : M L α} {k : α → M L β} (h : Five L d m) : Five L d (m >>= k) := fun t h1 h2 h3 => by
 rw [run_bind]; exact keep5 (h t h1 h2 h3)
theorem Five.take {x : Str} {A B : M L α} (h : Five L d B) : Five L d (TR.take x >>= fun r => if r = true then A else B) := fun t h1 h2 h3 => by
 rw [run_take (end_kind h1)]; exact h t h1 h2 h3
theorem Five.is {x : Str} {A B : M L α} (h : Five L d B) : Five L d (TR.is x >>= fun r => if r = true then A else B) := fun t h1 h2 h3 => by
 have e : (TR.is x >>= fun r => if r = true then A else B).run t = ((if isZ x t = true then A else B).run t) := id rfl
 rw [e, if_neg (by rw [kind0_is (end_kind h1)]; decide)]
 exact h t h1 h2 h3
theorem Five.types {A B : M L α} (h : Five L d B) : Five L d (TR.types >>= fun r => if r = true then A else B) := fun t h1 h2 h3 => by
 have k := end_kind h1
 rw [types_bind, if_neg (by unfold typesB; rw [kind0_is k, kind0_is k, kind0_is k, kind0_is k, kind0_is k]; decide)]
 exact h t h1 h2 h3
theorem Five.must {x : Str} : Five L d (must x) := Five.take fun t _ h2 _ => fail5 h2
theorem Five.now {k : Tok → M L α} (h : ∀ t : Tok, t.kind = 0 → Five L d (k t)) : Five L d (nowM >>= k) := fun t h1 h2 h3 => by
 rw [run_now]
 exact h _ (end_kind h1) t h1 h2 h3
theorem Five.iteN {c : Prop} [Decidable c] {A B : M L α} (hc : ¬ c) (h : Five L d B) : Five L d (if c then A else B) := by rw [if_neg hc]; exact h
theorem end_any : ∀ (l : List Str) (t : Z L), L.length ≤ t.at_ → (takeAny l).run t = (none, t)
 | [], t, _ => rfl
 | x :: r, t, h => by
  unfold takeAny
  rw [run_now, run_take (end_kind h)]
  exact end_any r t h
theorem Five.any {l : List Str} {k : Option (Str × Int) → M L α} (h : Five L d (k none)) : Five L d (takeAny l >>= k) := fun t h1 h2 h3 => by
 rw [run_bind, end_any l t h1]
 exact h t h1 h2 h3
variable {ex cx ux st : M L Int}
theorem five_primary : Five L d (primary ex) := by
 unfold primary
 refine Five.now fun t ht => Five.iteN (by rw [ht]; decide) (Five.iteN (by rw [ht]; decide) ?_)
 exact Five.take (Five.take (Five.l Five.must))
theorem five_unary : Five L d (unary ex ux) := by
 unfold unary
 refine Five.now fun t ht => Five.any (Five.take fun t h1 h2 h3 => ?_)
 rw [run_get, if_neg (by unfold castZ; rw [kind0_is (end_kind h1)]; exact Bool.false_ne_true)]
 exact (Five.l five_primary) t h1 h2 h3
theorem five_binary : ∀ (j : Nat), Five L d (binary ex ux j)
 | 0 => five_unary
 | j + 1 => Five.l (five_binary j)
theorem five_assign : Five L d (assign ex cx ux) := Five.l (Five.l (five_binary 10))
theorem Five.within {f : M L Int} (hd : d + 1 ≤ 100) (h : Five L (d + 1) f) : Five L d (within f) := fun t h1 h2 h3 => by
 have e1 : downZ t = deepZ t (t.deep + 1) := by unfold downZ; rw [if_neg (by omega)]
 have r1 : (TR.within f).run t = ((f.run (downZ t)).1, deepZ (f.run (downZ t)).2 ((f.run (downZ t)).2.deep - 1)) := if_pos (by rw [e1]; exact h2)
 rw [r1]
 refine h _ ?_ ?_ ?_
 ·rw [e1]; exact h1
 ·rw [e1]; exact h2
 ·rw [e1, ← h3]; rfl
theorem five_one (h : Five L d ex) : Five L d (one ex st) := by
 unfold one
 refine Five.now fun t ht => Five.is (Five.take (Five.types ?_))
 refine Five.take (Five.take (Five.take (Five.take (Five.take (Five.take (Five.take (Five.take (Five.take (Five.take (Five.take fun t h1 h2 h3 => ?_))))))))))
 rw [run_get, if_neg (by unfold namedZ; rw [end_kind h1]; exact Bool.false_ne_true)]
 exact (Five.l h) t h1 h2 h3
theorem five_expr (n : Nat) (hd : d + 1 ≤ 100) : Five L d (expr (n + 1)) := Five.within hd (five_assign (ex := within (lev n).1) (cx := within (lev n).2.1) (ux := within (lev n).2.2))
theorem five_oneN (n : Nat) (hd : d + 1 ≤ 100) : Five L d (oneN (n + 2)) := five_one (st := within (oneN (n + 1))) (five_expr n hd)
theorem five_stmtN (n : Nat) : Five L 0 (stmt (n + 2)) := Five.within (by decide) (five_oneN n (by decide))
theorem five_stmt (t : Z L) (h1 : L.length ≤ t.at_) (h2 : t.e = 0) (h3 : t.deep = 0) : ((stmt 101).run t).2.e = 5 := five_stmtN 99 t h1 h2 h3
end
section
variable {s : Z L} {s' : Z (L.take K)} (hE : NoTok K L)
include hE
theorem dead_topS (t : Tok) (hk : K ≤ s.at_ + 2) : ((topS t).run s).2.e ≠ 0 := by
 intro he
 have d : Dm K ((topS t).run s).2 := Pg.dm3 Pg.must (fun _ => Pg.kind (by decide)) (fun _ _ => Pg.l Pg.must) hk
 unfold topS at he
 rw [run_bind, run_bind, run_bind, run_left, run_bind] at he
 have h1 := ok_back he
 have h2 := ok_back h1
 have h3 := ok_back h2
 have h4 := ok_back h3
 have a1 := Pg.must s h4
 have a2 := Pg.kind (by decide) _ h3
 have a3 := Pg.must _ h2
 exact dead_fields hE _ _ (by omega) h1
theorem dead_top (hk : K ≤ s.at_) : ((top n).run s).2.e ≠ 0 := by
 rw [top_run]
 split
 ·exact dead_topS hE _ (by omega)
 ·intro he
  unfold topN at he
  rw [run_bind] at he
  have h1 := ok_back he
  unfold param at h1
  rw [run_now, run_bind, run_bind] at h1
  have h2 := ok_back h1
  exact Dead.kind hE (by decide) _ (Nat.lt_of_le_of_lt hk (pg_base s (ok_back h2))) h2
theorem rc_topS (t : Tok) (h : Sim s s') (d : Dp n s) : RC ((topS t).run s) ((topS t).run s') := by
 unfold topS
 have dm := fun x => Dead.must (L := L) hE (x := x)
 have df : ∀ b, Dead (L := L) K (left >>= fun f => fieldsL (f + 2) [] >>= fK b) := fun b => Dead.r fun f => Dead.l (dead_fields hE _)
 refine RC.on Rel.must h d (fun _ s1 s1' h1 d1 => ?_) fun _ => Dead.l (Dead.kind hE (by decide))
 refine RC.on (Rel.kind (by decide)) h1 d1 (fun x s2 s2' h2 d2 => ?_) fun _ => Dead.l (dm _)
 refine RC.on Rel.must h2 d2 (fun _ s3 s3' h3 d3 => ?_) fun _ => df _
 have := h3.lk
 have := h3.le
 rw [run_left, run_left, h3.at_, h3.len]
 refine RC.bind (rel_fieldsL _ _ [] _ _ h3 d3 (by omega) (by omega)) (fun h4 => ?_) fun he ha => ?_
 ·have hn := fields_none (L.length - s3.at_ + 2) [] s3
  have d4 := d3.step ((fieldsL (L.length - s3.at_ + 2) []).step s3)
  generalize (fieldsL (L.length - s3.at_ + 2) []).run s3 = r at h4 hn d4 ⊢
  rcases hr : r.1 with _ | l
  ·exact absurd h4.e (hn hr)
  ·exact RC.last h4 d4 (Rel.bind (Rel.list l) fun a => Rel.put) (Ka.bind (Ka.list l) fun a => Ka.put)
 ·have hn := fields_none (L.length - s3.at_ + 2) [] s3
  generalize (fieldsL (L.length - s3.at_ + 2) []).run s3 = r at he ha hn ⊢
  rcases hr : r.1 with _ | l
  ·exact absurd he (hn hr)
  ·exact Dead.l (dm _) _ ha
theorem rc_topN (t : Tok) (h : Sim s s') (d : Dp 101 s) (hd : s.deep = 0) : RC ((topN 101 t).run s) ((topN 101 t).run s') := by
 unfold topN
 have dm := fun x => Dead.must (L := L) hE (x := x)
 have db : ∀ x : Nde, Dead (L := L) K (left >>= fun f => paramsL (f + 2) [] >>= fun l => list l >>= fun a => block (stmt 101) >>= fun b => put { node 50 t.at_ with text := x.text, type_ := x.type_, a := a, b := b }) := fun x => Dead.r fun _ => Dead.r fun _ => Dead.r fun _ => Dead.l (dead_block hE)
 have dk : ∀ (j : Tok → Nde), Dead (L := L) K (kind 3 >>= fun v => must [59] >>= fun _ => put (j v)) := fun j => Dead.l (Dead.kind hE (by decide))
 have la : ∀ (x : Nde) (s : Z L) (s' : Z (L.take K)), Sim s s' → Dp 101 s → RC ((must [59] >>= fun _ => put x).run s) ((must [59] >>= fun _ => put x).run s') := fun x s s' h d => RC.last h d Rel.put Ka.put
 have da : ∀ x : Nde, Dead (L := L) K (array x.type_ >>= fun y => take [61] >>= fun r => if r = true then take [45] >>= fun r => if r = true then kind 3 >>= fun v => must [59] >>= fun _ => put { node 52 t.at_ with text := x.text, type_ := y, n := -1 * v.n } else kind 3 >>= fun v => must [59] >>= fun _ => put { node 52 t.at_ with text := x.text, type_ := y, n := 1 * v.n } else must [59] >>= fun _ => put { node 52 t.at_ with text := x.text, type_ := y }) := fun x => Dead.r fun y => Dead.take hE (Dead.l (dm _))
 refine RC.bind (rel_param s s' h d) (fun h1 => ?_) fun _ ha => Dead.take hE (da _) _ ha
 have d1 := d.step (param.step s)
 have hd1 : (param.run s).2.deep = 0 := ((param.step s).deep).trans hd
 generalize param.run s = r1 at h1 d1 hd1 ⊢
 generalize (param.run s').2 = s1' at h1 ⊢
 obtain ⟨x, s1⟩ := r1
 refine RC.take h1 (fun hk h2 => ?_) (db x) ?_
 ·have d2 := d1.step (bump_step s1)
  have hd2 : (bump s1).deep = 0 := ((bump_step s1).deep).trans hd1
  have := h2.lk
  have := h2.le
  rw [run_left, run_left, h2.at_, h2.len]
  refine RC.bind (rel_paramsL _ _ [] _ _ h2 d2 (by omega) (by omega)) (fun h3 => ?_) fun _ ha => Dead.r (fun _ => Dead.l (dead_block hE)) _ ha
  have d3 := d2.step ((paramsL (L.length - (bump s1).at_ + 2) []).step (bump s1))
  have hd3 := (((paramsL (L.length - (bump s1).at_ + 2) []).step (bump s1)).deep).trans hd2
  refine RC.bind (Rel.list _ _ _ h3 d3) (fun h4 => ?_) fun _ ha => Dead.l (dead_block hE) _ ha
  have d4 := d3.step ((list ((paramsL (L.length - (bump s1).at_ + 2) []).run (bump s1)).1).step _)
  have hd4 := (((list ((paramsL (L.length - (bump s1).at_ + 2) []).run (bump s1)).1).step _).deep).trans hd3
  exact RC.then d4 (rc_block hE (rel_stmt 101) (pg_stmt 101) five_stmt h4 d4 hd4) (fun _ => Rel.put) fun _ => Ka.put
 ·refine RC.on (Rel.array _) h1 d1 (fun y s2 s2' h2 d2 => ?_) fun _ => Dead.take hE (Dead.l (dm _))
  refine RC.take h2 (fun hk h3 => ?_) (Dead.take hE (dk _)) (la _ _ _ h2 d2)
  have d3 := d2.step (bump_step s2)
  refine RC.take h3 (fun hk h4 => ?_) (dk _) ?_
  ·exact RC.on (Rel.kind (by decide)) h4 (d3.step (bump_step _)) (fun v s5 s5' h5 d5 => la _ _ _ h5 d5) fun _ => Dead.l (dm _)
  ·exact RC.on (Rel.kind (by decide)) h3 d3 (fun v s5 s5' h5 d5 => la _ _ _ h5 d5) fun _ => Dead.l (dm _)
theorem rc_top (h : Sim s s') (d : Dp 101 s) (hd : s.deep = 0) : RC ((top 101).run s) ((top 101).run s') := by
 rcases Nat.lt_or_ge s.at_ K with hk | hk
 ·rw [top_run, top_run, h.now hk]
  rcases Nat.lt_or_ge (s.at_ + 2) K with h2 | h2
  ·rw [h.struct h2]
   split
   ·exact rc_topS hE _ h d
   ·exact rc_topN hE _ h d hd
  ·rw [h.struct0 h2, if_neg Bool.false_ne_true]
   split
   ·exact .inl (dead_topS hE _ h2)
   ·exact rc_topN hE _ h d hd
 ·exact .inl (dead_top hE hk)
theorem cut_topsL (hN : ∀ i, i ≤ K → (L.getD i d4).kind ≠ 0) (hl : K < L.length) : ∀ (f f' : Nat) (l : List Int) (s : Z L) (s' : Z (L.take K)), Sim s s' → Dp 101 s → s.deep = 0 → K < s.at_ + f → K < s.at_ + f' → ((topsL 101 f l).run s).2.e = 0 → ((topsL 101 f' l).run s').2.e = 5
 | 0, _, _, s, _, h, _, _, hf, _, _ => absurd h.le (by omega)
 | _ + 1, 0, _, s, _, h, _, _, _, hf, _ => absurd h.le (by omega)
 | f + 1, f' + 1, l, s, s', h, d, hd, hf, hf', he => by
  have e : ∀ {L : List Tok} {s : Z L} {f : Nat}, s.e = 0 → (now s).kind ≠ 0 → (topsL 101 (f + 1) l).run s = (topsL 101 f (l ++ [((top 101).run s).1])).run ((top 101).run s).2 := fun {L s f} he hk => by
   rw [show (topsL 101 (f + 1) l : M L _) = (getZ >>= fun s => if s.e = 0 then nowM >>= fun t => if t.kind = 0 then pure l else top 101 >>= fun x => topsL 101 f (l ++ [x]) else pure l) from id rfl, run_get, if_pos he, run_now, if_neg hk, run_bind]
  have k1 : (now s).kind ≠ 0 := by
   have := h.le
   unfold now
   rw [if_pos ⟨h.e, by omega⟩]
   exact hN _ this
  rw [e h.e k1] at he
  have he1 := ok_back he
  rcases Nat.lt_or_ge s.at_ K with hk | hk
  ·rw [e h.e' (by rw [h.now hk]; exact k1)]
   rcases rc_top hE h d hd with h3 | ⟨h3, h4⟩ | ⟨h3, h4⟩
   ·exact absurd he1 h3
   ·exact keep5 h4
   ·rw [h4]
    have := pg_top s he1
    have st := (top 101).step s
    exact cut_topsL hN hl f f' _ _ _ h3 (d.step st) (st.deep.trans hd) (by omega) (by omega) he
  ·exact absurd he1 (dead_top hE hk)
theorem cut_parse (hN : ∀ i, i ≤ K → (L.getD i d4).kind ≠ 0) (hl : K < L.length) (he : (parse L).2.2 = 0) : (parse (L.take K)).2.2 = 5 ∧ (parse (L.take K)).1.nodes = [] := by
 have hd : Dp 101 (first L) := ⟨Int.le_refl 0, by show (0 : Int) ≤ 100; decide, by show (100 : Int) ≤ 0 + 101; decide⟩
 have h0 : Sim (first L) (first (L.take K)) := ⟨Nat.le_of_lt hl, rfl, Nat.zero_le _, rfl, rfl, rfl, rfl, rfl, rfl⟩
 have hw : (whole.run (first L)).2.e = 0 := by
  unfold parse at he
  simp only at he
  split at he
  ·assumption
  ·contradiction
 have h5 : (whole.run (first (L.take K))).2.e = 5 := by
  unfold whole at hw ⊢
  rw [run_left, run_bind] at hw ⊢
  refine keep5 (cut_topsL hE hN hl _ _ [] _ _ h0 hd rfl ?_ ?_ (ok_back hw))
  ·show K < 0 + (L.length - 0 + 2); omega
  ·rw [h0.len]; show K < 0 + (K - 0 + 2); omega
 unfold parse
 simp only
 rw [if_neg (by rw [h5]; decide)]
 exact ⟨h5, rfl⟩
end
theorem cuts_law (s : Str) : Tryd.m3 s = some ((true, ()), ()) := by
 rw [Tryd.m3_eq]
 have aw : ∀ {f : (Bool × Unit) × Unit → Option ((Bool × Unit) × Unit)}, f ((true, ()), ()) = some ((true, ()), ()) → (Tryd.m5).bind f = some ((true, ()), ()) := fun h => (ob awake_v).trans h
 by_cases h : (3000 : Int) < I s.length
 ·rw [if_pos (decide_eq_true h)]
  exact aw rfl
 rw [if_neg (fun hh => h (of_decide_eq_true hh)), Law.scan_v]
 cases hs : Law.scanA s with
 | err a e =>
  refine (if_pos (show (!decide (e = 0)) = true by rw [decide_eq_false (scan_ne hs)]; rfl)).trans ?_
  exact aw rfl
 | ok l =>
  have src := scan_src hs
  show (if (decide (I l.length < (2 : Int))) = true then _ else _) = _
  by_cases h2 : l.length < 2
  ·rw [if_pos (decide_eq_true (by simp only [I]; omega))]
   exact aw rfl
  rw [if_neg (by simp only [I, decide_eq_true_eq]; omega)]
  refine (ob (r_parse src.tokL)).trans ?_
  by_cases he : (parse l).2.2 = 0
  ·refine (if_neg (show ¬ (!decide ((parse l).2.2 = 0)) = true by rw [decide_eq_true he]; decide)).trans ?_
   have hlen := src.tokL.len
   refine (if_pos (inR_of (by show _ ≤ I l.length - 2; simp only [I]; omega) (by show I l.length - 2 ≤ _; simp only [I]; omega))).trans ?_
   refine (if_pos (decide_eq_true (show (0 : Int) ≤ 0 ∧ (0 : Int) ≤ I l.length - 2 ∧ I l.length - 2 ≤ I l.length by simp only [I]; omega))).trans ?_
   have hK : (I l.length - 2).toNat = l.length - 2 := by simp only [I]; omega
   obtain ⟨r, hr, hall⟩ := pl_last s l 0 src.pl
   have hrl : l.length = r.length + 1 := by rw [hr, List.length_append]; rfl
   have hN : ∀ i, i ≤ l.length - 2 → (l.getD i d4).kind ≠ 0 := fun i hi => by
    have hi' : i < r.length := by omega
    rw [hr, List.getD_eq_getElem?_getD, List.getElem?_append_left hi', List.getElem?_eq_getElem hi']
    have := (hall _ (List.getElem_mem hi')).1
    show r[i].kind ≠ 0
    omega
   have hE : NoTok (l.length - 2) l := fun i hi => by
    rcases Nat.lt_or_ge i l.length with h3 | h3
    ·have hi' : i = r.length := by omega
     rw [hr, List.getD_eq_getElem?_getD, hi', List.getElem?_append_right (Nat.le_refl _), Nat.sub_self]
     rfl
    ·rw [List.getD_eq_getElem?_getD, List.getElem?_eq_none h3]; rfl
   have key := cut_parse hE hN (by omega) he
   have tk : TokL (l.take (l.length - 2)) := ⟨by rw [List.length_take]; omega, fun t ht => src.tokL.bnd t (List.mem_of_mem_take ht), fun t ht => src.tokL.num t (List.mem_of_mem_take ht)⟩
   have rp := r_parse tk
   show (Tryd.m7 (List.take (I l.length - 2).toNat l)).bind _ = _
   rw [hK]
   refine (ob rp).trans ?_
   refine (if_pos (decide_eq_true (show (parse (l.take (l.length - 2))).2.2 = 5 from key.1))).trans ?_
   refine (if_pos (decide_eq_true (show I (parse (l.take (l.length - 2))).1.nodes.length = 0 by rw [key.2]; rfl))).trans ?_
   exact aw rfl
  ·refine (if_pos (show (!decide ((parse l).2.2 = 0)) = true by rw [decide_eq_false he]; rfl)).trans ?_
   exact aw rfl
end
end Go.Proofs.TR
