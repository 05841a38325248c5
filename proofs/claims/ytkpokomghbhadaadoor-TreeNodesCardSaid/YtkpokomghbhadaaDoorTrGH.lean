/- The plain parser's trees: each node stands behind those in it, types are there, places lie in the source. -/
import Derived.Test.YtkpokomghbhadaaDoorTrAP
set_option linter.unusedSimpArgs false
set_option maxRecDepth 100000
namespace Go.Proofs.TR
open Go Go.En Go.En.Dop
section
variable {L : List Tok} {E : Int}
def GN (T n : Nat) (E : Int) (x : Nde) : Prop := (-1 ≤ x.a ∧ x.a < n) ∧ (-1 ≤ x.b ∧ x.b < n) ∧ (-1 ≤ x.c ∧ x.c < n) ∧ (-1 ≤ x.d ∧ x.d < n) ∧ (0 ≤ x.type_ ∧ x.type_ < T) ∧ (0 ≤ x.at_ ∧ x.at_ ≤ E) ∧ 1 ≤ x.kind ∧ x.kind ≤ 53
def GT (T : List Typ) : Prop := (∃ r, T = types0 ++ r) ∧ ∀ n, 4 ≤ n → n < T.length → (T.getD n d6).elem < n
structure Good (E : Int) (s : Z L) : Prop where
  N : ∀ n, n < s.N.length → GN s.T.length n E (s.N.getD n d5)
  T : GT s.T
theorem GT.len {T : List Typ} (g : GT T) : 4 ≤ T.length := by
  obtain ⟨⟨r, hr⟩, _⟩ := g
  rw [hr, List.length_append]
  exact Nat.le_add_right 4 _
abbrev Nd (a : Int) (s : Z L) : Prop := -1 ≤ a ∧ a < (s.N.length : Nat)
abbrev Ty (a : Int) (s : Z L) : Prop := 0 ≤ a ∧ a < (s.T.length : Nat)
abbrev At (E : Int) (t : Tok) : Prop := 0 ≤ t.at_ ∧ t.at_ ≤ E
abbrev Nds (l : List Int) (s : Z L) : Prop := ∀ x ∈ l, Nd x s
structure StaP (P : Z L → Prop) : Prop where
  mono : ∀ {s s' : Z L}, Step s s' → P s → P s'
abbrev Sta (P : Z L → Prop) : Prop := Nonempty (StaP P)
theorem Sta.mono {P : Z L → Prop} [h : Sta P] {s s' : Z L} (hs : Step s s') (p : P s) : P s' := h.elim fun x => x.mono hs p
instance {p : Prop} : Sta (L := L) fun _ => p := ⟨⟨fun _ h => h⟩⟩
instance {a : Int} : Sta (L := L) (Nd a) := ⟨⟨fun hs h => ⟨h.1, Int.lt_of_lt_of_le h.2 (Int.ofNat_le.2 hs.N.length_le)⟩⟩⟩
instance {a : Int} : Sta (L := L) (Ty a) := ⟨⟨fun hs h => ⟨h.1, Int.lt_of_lt_of_le h.2 (Int.ofNat_le.2 hs.T.length_le)⟩⟩⟩
instance {l : List Int} : Sta (L := L) (Nds l) := ⟨⟨fun hs h x hx => ⟨(h x hx).1, Int.lt_of_lt_of_le (h x hx).2 (Int.ofNat_le.2 hs.N.length_le)⟩⟩⟩
instance {P Q : Z L → Prop} [Sta P] [Sta Q] : Sta fun s => P s ∧ Q s := ⟨⟨fun hs h => ⟨Sta.mono hs h.1, Sta.mono hs h.2⟩⟩⟩
def Hr (E : Int) (P : Z L → Prop) {α : Type} (f : M L α) (Q : α → Z L → Prop) : Prop := ∀ s, P s → Good E s → Good E (f.run s).2 ∧ Q (f.run s).1 (f.run s).2
variable {P P' : Z L → Prop} {α β : Type}
theorem Hr.b {m : M L α} {k : α → M L β} {Q : α → Z L → Prop} {R : β → Z L → Prop} [Sta P] (hm : Hr E P m Q) (hk : ∀ x, Hr E (fun s => P s ∧ Q x s) (k x) R) : Hr E P (m >>= k) R := fun s p g => by
  rw [run_bind]
  have h1 := hm s p g
  exact hk _ _ ⟨Sta.mono (m.step s) p, h1.2⟩ h1.1
theorem Hr.w {m : M L α} {Q : α → Z L → Prop} (hm : Hr E P' m Q) (h : ∀ s, P s → P' s) : Hr E P m Q := fun s p g => hm s (h s p) g
theorem Hr.t {m : M L α} {Q : α → Z L → Prop} (hm : Hr E (fun _ => True) m Q) : Hr E P m Q := hm.w fun _ _ => trivial
theorem Hr.i {c : Prop} [Decidable c] {a b : M L α} {Q : α → Z L → Prop} (ha : Hr E P a Q) (hb : Hr E P b Q) : Hr E P (if c then a else b) Q := by split <;> assumption
theorem Hr.p {x : α} {Q : α → Z L → Prop} (h : ∀ s, P s → Good E s → Q x s) : Hr E P (pure x) Q := fun s p g => ⟨g, h s p g⟩
theorem Hr.g {k : Z L → M L α} {R : α → Z L → Prop} (hk : ∀ x, Hr E P (k x) R) : Hr E P (getZ >>= k) R := fun s p g => by
  rw [run_get]; exact hk s s p g
theorem good_eq {s s' : Z L} (g : Good E s) (h1 : s'.N = s.N) (h2 : s'.T = s.T) : Good E s' := ⟨by rw [h1, h2]; exact g.N, by rw [h2]; exact g.T⟩
theorem good_bump {s : Z L} (g : Good E s) : Good E (bump s) := by
  refine good_eq g ?_ ?_ <;> (unfold bump; split <;> rfl)
theorem good_fail {s : Z L} {e : Int} (g : Good E s) : Good E (failZ e s) := by
  refine good_eq g ?_ ?_ <;> (unfold failZ; split <;> rfl)
theorem hr_bump : Hr (L := L) E P bumpM fun _ _ => True := fun _ _ g => ⟨good_bump g, trivial⟩
theorem hr_take {x : Str} : Hr (L := L) E P (take x) fun _ _ => True := fun s _ g => ⟨by
  show Good E (if isZ x s = true then bump s else s)
  split
  · exact good_bump g
  · exact g, trivial⟩
theorem hr_is {x : Str} : Hr (L := L) E P (is x) fun _ _ => True := fun s _ g => ⟨g, trivial⟩
theorem hr_left : Hr (L := L) E P left fun _ _ => True := fun s _ g => ⟨g, trivial⟩
theorem hr_must {x : Str} : Hr (L := L) E P (must x) fun _ _ => True := fun s p g => by
  unfold must
  rw [run_bind]
  have h1 := (hr_take (P := P) (x := x) s p g).1
  rw [run_ite]
  split
  · exact ⟨h1, trivial⟩
  · exact ⟨good_fail h1, trivial⟩
structure TokE (L : List Tok) (E : Int) : Prop where
  pos : 0 ≤ E
  at_ : ∀ t ∈ L, 0 ≤ t.at_ ∧ t.at_ + (t.text.length : Int) ≤ E
theorem getD_mem' {n : Nat} (h : n < L.length) : L.getD n d4 ∈ L := by
  rw [List.getD_eq_getElem?_getD, List.getElem?_eq_getElem h]; exact List.getElem_mem h
theorem end_at (h : TokE L E) : 0 ≤ endAt L ∧ endAt L ≤ E := by
  have := h.pos
  unfold endAt
  split
  · omega
  · have h1 := h.at_ _ (getD_mem' (L := L) (n := L.length - 1) (by omega))
    omega
theorem now_at (h : TokE L E) (s : Z L) : At E (now s) := by
  unfold now
  split
  · rename_i hc
    have h1 := h.at_ _ (getD_mem' (L := L) hc.2)
    exact ⟨by omega, by omega⟩
  · exact end_at h
theorem hr_now (h : TokE L E) : Hr (L := L) E P nowM fun t _ => At E t := fun s _ g => ⟨g, now_at h s⟩
theorem hr_kind {k : Int} : Hr (L := L) E P (kind k) fun _ _ => True := fun s p g => by
  have e : (TR.kind k).run s = (if (now s).kind = k ∧ s.e = 0 then (now s, bump s) else (noTok (now s).at_, failZ 5 s)) := by
    show ((if (now s).kind = k ∧ s.e = 0 then _ else _ : M L Tok)).run s = _
    rw [run_ite]; rfl
  rw [e]
  split
  · exact ⟨good_bump g, trivial⟩
  · exact ⟨good_fail g, trivial⟩
theorem good_put {s : Z L} {n : Nde} (g : Good E s) (hn : GN s.T.length s.N.length E n) : Good E (putZ n s).2 ∧ Nd (putZ n s).1 (putZ n s).2 := by
  unfold putZ
  split
  · refine ⟨⟨fun m hm => ?_, g.T⟩, ?_⟩
    · simp only [List.length_append, List.length_singleton] at hm
      show GN s.T.length m E ((s.N ++ [n]).getD m d5)
      by_cases h : m < s.N.length
      · have e : (s.N ++ [n]).getD m d5 = s.N.getD m d5 := by simp only [List.getD_eq_getElem?_getD, List.getElem?_append_left h]
        rw [e]; exact g.N m h
      · have e : m = s.N.length := by omega
        subst e
        have e : (s.N ++ [n]).getD s.N.length d5 = n := by simp [List.getD_eq_getElem?_getD]
        rw [e]; exact hn
    · simp only [Nd, List.length_append, List.length_singleton]; omega
  · exact ⟨g, by simp only [Nd]; omega⟩
theorem hr_put {n : Nde} (hn : ∀ s, P s → Good E s → GN s.T.length s.N.length E n) : Hr (L := L) E P (put n) Nd := fun s p g => by
  unfold put
  rw [run_get, run_ite]
  split
  · rw [run_bind]
    have e1 : (failZ 4 s).N = s.N := by unfold failZ; split <;> rfl
    have e2 : (failZ 4 s).T = s.T := by unfold failZ; split <;> rfl
    exact good_put (s := failZ 4 s) (good_fail g) (by rw [e1, e2]; exact hn s p g)
  · exact good_put g (hn s p g)
theorem idx_lt (x : Typ) : ∀ (l : List Typ) (k : Nat), idx x l k < ((k + l.length : Nat) : Int)
  | [], k => by show (-1 : Int) < _; omega
  | y :: r, k => by
    unfold idx
    split
    · simp only [List.length_cons]; omega
    · have := idx_lt x r (k + 1)
      simp only [List.length_cons]; omega
theorem GN.more {T T' n : Nat} {x : Nde} (h : GN T n E x) (hT : T ≤ T') : GN T' n E x := by
  unfold GN at h ⊢
  omega
theorem hr_typed {x : Typ} (hx : ∀ s, P s → Good E s → x.elem < (s.T.length : Nat)) : Hr (L := L) E P (typed x) Ty := fun s p g => by
  unfold typed
  have h4 := g.T.len
  rw [run_get, run_ite]
  split
  · rename_i h0
    have := idx_lt x s.T 0
    exact ⟨g, h0, by show idx x s.T 0 < (s.T.length : Nat); omega⟩
  · rw [run_ite]
    split
    · rw [run_bind]
      have e2 : (failZ 4 s).T = s.T := by unfold failZ; split <;> rfl
      refine ⟨good_fail g, Int.le_refl 0, ?_⟩
      show (0 : Int) < ((failZ 4 s).T.length : Nat)
      rw [e2]; omega
    · unfold addT
      simp only
      split
      · refine ⟨⟨fun n hn => ?_, ?_⟩, ?_⟩
        · exact (g.N n hn).more (by simp only [List.length_append]; omega)
        · obtain ⟨⟨r, hr⟩, h2⟩ := g.T
          refine ⟨⟨r ++ [x], by show s.T ++ [x] = _; rw [hr, List.append_assoc]⟩, fun n h4n hn => ?_⟩
          show ((s.T ++ [x]).getD n d6).elem < n
          have hn : n < (s.T ++ [x]).length := hn
          simp only [List.length_append, List.length_singleton] at hn
          by_cases h : n < s.T.length
          · have e : (s.T ++ [x]).getD n d6 = s.T.getD n d6 := by simp only [List.getD_eq_getElem?_getD, List.getElem?_append_left h]
            rw [e]; exact h2 n h4n h
          · have e : n = s.T.length := by omega
            subst e
            have e : (s.T ++ [x]).getD s.T.length d6 = x := by simp [List.getD_eq_getElem?_getD]
            rw [e]; exact hx s p g
        · simp only [Ty, List.length_append, List.length_singleton]; omega
      · exact ⟨g, by simp only [Ty]; omega⟩
theorem hr_types : Hr (L := L) E P types fun _ _ => True := by
  unfold types
  refine Hr.t (Hr.b hr_is fun _ => Hr.i (Hr.p fun _ _ _ => trivial) ?_)
  refine Hr.t (Hr.b hr_is fun _ => Hr.i (Hr.p fun _ _ _ => trivial) ?_)
  refine Hr.t (Hr.b hr_is fun _ => Hr.i (Hr.p fun _ _ _ => trivial) ?_)
  refine Hr.t (Hr.b hr_is fun _ => Hr.i (Hr.p fun _ _ _ => trivial) ?_)
  exact hr_is
theorem hr_starsL : ∀ (f : Nat) (t : Int), Hr (L := L) E (Ty t) (starsL f t) Ty
  | 0, t => Hr.p fun _ p _ => p
  | f + 1, t => by
    unfold starsL
    refine Hr.b hr_take fun _ => Hr.i ?_ (Hr.p fun _ p _ => p.1)
    refine Hr.b (hr_typed fun s p _ => p.1.2) fun t' => (hr_starsL f t').w fun _ p => p.2
theorem hr_stars {t : Int} (h : ∀ s, P s → Good E s → Ty t s) : Hr (L := L) E P (stars t) Ty := fun s p g => by
  unfold stars
  rw [run_bind]
  exact hr_starsL _ t s (h s p g) g
theorem hr_base : Hr (L := L) E P base Ty := by
  have h : ∀ (t : Int), 0 ≤ t → t < 4 → Hr (L := L) E (fun _ => True) (stars t) Ty := fun t h0 h4 => hr_stars fun s _ g => by have := g.T.len; simp only [Ty]; omega
  unfold base
  refine Hr.t (Hr.b hr_take fun _ => Hr.i (Hr.t (h 0 (by decide) (by decide))) ?_)
  refine Hr.t (Hr.b hr_take fun _ => Hr.i (Hr.t (h 1 (by decide) (by decide))) ?_)
  refine Hr.t (Hr.b hr_take fun _ => Hr.i (Hr.t (h 2 (by decide) (by decide))) ?_)
  refine Hr.t (Hr.b hr_take fun _ => Hr.i (Hr.t (h 3 (by decide) (by decide))) ?_)
  refine Hr.t (Hr.b hr_must fun _ => Hr.t (Hr.b hr_kind fun t => Hr.t (Hr.b (hr_typed fun s _ g => ?_) fun n => hr_stars fun s p _ => p.2)))
  have := g.T.len
  show (0 : Int) < _; omega
theorem hr_array {t : Int} : Hr (L := L) E (Ty t) (array t) Ty := by
  unfold array
  refine Hr.b hr_take fun _ => Hr.i ?_ (Hr.p fun _ p _ => p.1)
  exact Hr.b hr_kind fun n => Hr.b hr_must fun _ => hr_typed fun s p _ => p.1.1.1.2
theorem start_at {s : Z L} {x : Int} (g : Good E s) (he : 0 ≤ E) (hx : Nd x s) : 0 ≤ startZ s x ∧ startZ s x ≤ E := by
  unfold startZ
  split
  · omega
  · have := g.N x.toNat (by simp only [Nd] at hx; omega)
    unfold GN at this
    omega
theorem hr_listL (he : 0 ≤ E) : ∀ (l : List Int) (out : Int), Hr (L := L) E (fun s => Nds l s ∧ Nd out s) (listL l out) Nd
  | [], out => Hr.p fun _ p _ => p.2
  | x :: r, out => fun s p g => by
    unfold listL
    rw [run_get]
    have hx := p.1 x List.mem_cons_self
    have ha := start_at g he hx
    generalize startZ s x = at_ at ha ⊢
    refine Hr.b (P := fun s' => Nds r s' ∧ (Nd x s' ∧ Nd out s')) (Q := Nd) (hr_put ?_) (fun o => (hr_listL he r o).w fun _ p => ⟨p.1.1, p.2⟩) s ⟨fun y hy => p.1 y (List.mem_cons_of_mem _ hy), hx, p.2⟩ g
    (intro s p g; have h4 := g.T.len; simp only [Nd, Ty, At] at p; simp only [GN, node]; omega)
theorem hr_list (he : 0 ≤ E) {l : List Int} : Hr (L := L) E (Nds l) (list l) Nd := (hr_listL he l.reverse (-1)).w fun s p => ⟨fun x hx => p x (List.mem_reverse.1 hx), by simp only [Nd]; omega⟩
theorem hr_takeAny (h : TokE L E) : ∀ (l : List Str), Hr (L := L) E (fun _ => True) (takeAny l) fun r _ => ∀ x a, r = some (x, a) → 0 ≤ a ∧ a ≤ E
  | [] => Hr.p fun _ _ _ x a e => by cases e
  | x :: r => by
    unfold takeAny
    refine Hr.b (hr_now h) fun t => Hr.b hr_take fun b => Hr.i (Hr.p fun s p _ x a e => ?_) (Hr.t (hr_takeAny h r))
    cases e
    exact p.1.2
theorem within_down {f : M L Int} (hf : Hr E (fun _ => True) f Nd) : Hr (L := L) E P (within f) Nd := fun s p g => by
  obtain ⟨a1, a2, a3, a4, a5, a6⟩ := downZ_ok s
  have g1 : Good E (downZ s) := good_eq g a5 a6
  by_cases h : (downZ s).e = 0
  · simp only [within, if_pos h]
    have h2 := hf _ trivial g1
    exact ⟨good_eq h2.1 rfl rfl, h2.2⟩
  · simp only [within, if_neg h]
    exact ⟨good_eq g1 rfl rfl, by simp only [Nd]; omega⟩
section
variable {ex cx ux st : M L Int}
theorem nds_snoc {l : List Int} {x : Int} {s : Z L} (hl : Nds l s) (hx : Nd x s) : Nds (l ++ [x]) s := fun y hy => by
  rcases List.mem_append.1 hy with hy | hy
  · exact hl y hy
  · rw [List.mem_singleton.1 hy]; exact hx
theorem hr_argsL (h : TokE L E) (hx : Hr E (fun _ => True) ex Nd) : ∀ (f : Nat) (l : List Int), Hr (L := L) E (Nds l) (argsL ex f l) Nd
  | 0, l => hr_list h.pos
  | f + 1, l => by
    unfold argsL
    have hl : Hr (L := L) E (fun s => Nds l s ∧ True) (list l) Nd := (hr_list h.pos).w fun _ p => p.1
    refine Hr.b hr_take fun _ => Hr.i hl (Hr.g fun z => Hr.i (Hr.i ?_ ?_) hl)
    · exact Hr.b hr_must fun _ => Hr.b hx.t fun x => (hr_argsL h hx f _).w fun _ p => nds_snoc p.1.1.1 p.2
    · exact Hr.b hx.t fun x => (hr_argsL h hx f _).w fun _ p => nds_snoc p.1.1 p.2
theorem hr_args (h : TokE L E) (hx : Hr E (fun _ => True) ex Nd) : Hr (L := L) E P (args ex) Nd := by
  unfold args
  exact Hr.t (Hr.b hr_left fun f => (hr_argsL h hx _ []).w fun _ _ x hx => by cases hx)
theorem hr_primary (h : TokE L E) (hx : Hr E (fun _ => True) ex Nd) : Hr (L := L) E P (primary ex) Nd := by
  unfold primary
  refine Hr.t (Hr.b (hr_now h) fun t => Hr.i (Hr.b hr_bump fun _ => hr_put ?_) (Hr.i (Hr.b hr_bump fun _ => Hr.b hr_take fun _ => Hr.i (Hr.b (hr_args h hx) fun a => hr_put ?_) (hr_put ?_)) ?_))
  · (intro s p g; have h4 := g.T.len; simp only [Nd, Ty, At] at p; simp only [GN, node]; omega)
  · (intro s p g; have h4 := g.T.len; simp only [Nd, Ty, At] at p; simp only [GN, node]; omega)
  · (intro s p g; have h4 := g.T.len; simp only [Nd, Ty, At] at p; simp only [GN, node]; omega)
  refine Hr.b hr_take fun _ => Hr.i (Hr.b hx.t fun a => Hr.b hr_must fun _ => Hr.p fun _ p _ => p.1.2) ?_
  refine Hr.b hr_take fun _ => Hr.i (Hr.b hr_must fun _ => Hr.b hr_must fun _ => hr_put ?_) (Hr.b hr_must fun _ => Hr.b hr_must fun _ => Hr.b hx.t fun a => Hr.b hr_must fun _ => hr_put ?_)
  · (intro s p g; have h4 := g.T.len; simp only [Nd, Ty, At] at p; simp only [GN, node]; omega)
  · (intro s p g; have h4 := g.T.len; simp only [Nd, Ty, At] at p; simp only [GN, node]; omega)
theorem hr_behindL (h : TokE L E) (hx : Hr E (fun _ => True) ex Nd) : ∀ (f : Nat) (a : Int), Hr (L := L) E (Nd a) (behindL ex f a) Nd
  | 0, a => Hr.p fun _ _ _ => by simp only [Nd]; omega
  | f + 1, a => by
    have ih := fun a => hr_behindL h hx f a
    unfold behindL
    refine Hr.g fun z => Hr.i (Hr.b (hr_now h) fun t => ?_) (Hr.p fun _ _ _ => by simp only [Nd]; omega)
    refine Hr.b hr_take fun _ => Hr.i (Hr.b hx.t fun b => Hr.b hr_must fun _ => Hr.b (hr_put ?_) fun a' => (ih a').w fun _ p => p.2) ?_
    · (intro s p g; have h4 := g.T.len; simp only [Nd, Ty, At] at p; simp only [GN, node]; omega)
    refine Hr.b hr_take fun _ => Hr.i (Hr.b hr_kind fun x => Hr.b (hr_put ?_) fun a' => (ih a').w fun _ p => p.2) ?_
    · (intro s p g; have h4 := g.T.len; simp only [Nd, Ty, At] at p; simp only [GN, node]; omega)
    refine Hr.b hr_take fun _ => Hr.i (Hr.b hr_kind fun x => Hr.b (hr_put ?_) fun a' => (ih a').w fun _ p => p.2) ?_
    · (intro s p g; have h4 := g.T.len; simp only [Nd, Ty, At] at p; simp only [GN, node]; omega)
    refine Hr.b hr_take fun _ => Hr.i (Hr.b (hr_put ?_) fun a' => (ih a').w fun _ p => p.2) ?_
    · (intro s p g; have h4 := g.T.len; simp only [Nd, Ty, At] at p; simp only [GN, node]; omega)
    refine Hr.b hr_take fun _ => Hr.i (Hr.b (hr_put ?_) fun a' => (ih a').w fun _ p => p.2) (Hr.p fun _ p _ => p.1.1.1.1.1.1)
    · (intro s p g; have h4 := g.T.len; simp only [Nd, Ty, At] at p; simp only [GN, node]; omega)
theorem hr_unary (h : TokE L E) (hx : Hr E (fun _ => True) ex Nd) (hu : Hr E (fun _ => True) ux Nd) : Hr (L := L) E P (unary ex ux) Nd := by
  unfold unary
  refine Hr.t (Hr.b (hr_now h) fun t => Hr.b (hr_takeAny h unOps).t fun r => ?_)
  rcases r with _ | ⟨x, a⟩
  · refine Hr.b hr_take fun _ => Hr.i (Hr.b hr_must fun _ => Hr.b hr_base fun b => Hr.b (hr_array.w fun _ p => p.2) fun y => Hr.b hr_must fun _ => hr_put ?_) ?_
    · (intro s p g; have h4 := g.T.len; simp only [Nd, Ty, At] at p; simp only [GN, node]; omega)
    refine Hr.g fun z => Hr.i (Hr.b hr_must fun _ => Hr.b hr_base fun b => Hr.b hr_must fun _ => Hr.b hu.t fun a => hr_put ?_) ?_
    · (intro s p g; have h4 := g.T.len; simp only [Nd, Ty, At] at p; simp only [GN, node]; omega)
    exact Hr.b (hr_primary h hx) fun a => Hr.b hr_left fun f => (hr_behindL h hx _ a).w fun _ p => p.1.2
  · refine Hr.b hu.t fun b => hr_put ?_
    intro s p g
    have h4 := g.T.len
    simp only [Nd, Ty, At] at p
    simp only [GN, node]
    split <;> omega
theorem hr_binL (h : TokE L E) {sub : M L Int} {ops : List Str} (hs : Hr E (fun _ => True) sub Nd) : ∀ (f : Nat) (a : Int), Hr (L := L) E (Nd a) (binL sub ops f a) Nd
  | 0, a => Hr.p fun _ p _ => p
  | f + 1, a => by
    unfold binL
    refine Hr.b (hr_takeAny h ops).t fun r => ?_
    rcases r with _ | ⟨x, at_⟩
    · exact Hr.p fun _ p _ => p.1
    · refine Hr.b hs.t fun b => Hr.b (hr_put ?_) fun a' => (hr_binL h hs f a').w fun _ p => p.2
      intro s p g
      have h4 := g.T.len
      have ha := p.1.2 x at_ rfl
      simp only [Nd, Ty, At] at p
      simp only [GN, node]
      omega
theorem hr_binary (h : TokE L E) (hx : Hr E (fun _ => True) ex Nd) (hu : Hr E (fun _ => True) ux Nd) : ∀ (j : Nat), Hr (L := L) E (fun _ => True) (binary ex ux j) Nd
  | 0 => hr_unary h hx hu
  | j + 1 => by
    unfold binary
    exact Hr.b (hr_binary h hx hu j).t fun a => Hr.b hr_left fun f => (hr_binL h (hr_binary h hx hu j) _ a).w fun _ p => p.1.2
theorem hr_cond (h : TokE L E) (hx : Hr E (fun _ => True) ex Nd) (hc : Hr E (fun _ => True) cx Nd) (hu : Hr E (fun _ => True) ux Nd) : Hr (L := L) E P (cond ex cx ux) Nd := by
  unfold cond
  refine Hr.t (Hr.b (hr_binary h hx hu 10).t fun a => Hr.b (hr_now h) fun t => Hr.b hr_take fun _ => Hr.i (Hr.b hx.t fun b => Hr.b hr_must fun _ => Hr.b hc.t fun c => hr_put ?_) (Hr.p fun _ p _ => p.1.1.2))
  (intro s p g; have h4 := g.T.len; simp only [Nd, Ty, At] at p; simp only [GN, node]; omega)
theorem hr_assign (h : TokE L E) (hx : Hr E (fun _ => True) ex Nd) (hc : Hr E (fun _ => True) cx Nd) (hu : Hr E (fun _ => True) ux Nd) : Hr (L := L) E P (assign ex cx ux) Nd := by
  unfold assign
  refine Hr.t (Hr.b (hr_cond h hx hc hu) fun a => Hr.b (hr_takeAny h asOps).t fun r => ?_)
  rcases r with _ | ⟨x, at_⟩
  · exact Hr.p fun _ p _ => p.1.2
  · refine Hr.b hx.t fun b => hr_put ?_
    intro s p g
    have h4 := g.T.len
    have ha := p.1.2 x at_ rfl
    simp only [Nd, Ty, At] at p
    simp only [GN, node]
    omega
end
theorem hr_lev (h : TokE L E) : ∀ (n : Nat), Hr (L := L) E (fun _ => True) (lev n).1 Nd ∧ Hr (L := L) E (fun _ => True) (lev n).2.1 Nd ∧ Hr (L := L) E (fun _ => True) (lev n).2.2 Nd
  | 0 => by
    have e : Hr (L := L) E (fun _ => True) (pure (-1)) Nd := Hr.p fun _ _ _ => by simp only [Nd]; omega
    exact ⟨e, e, e⟩
  | n + 1 => by
    obtain ⟨h1, h2, h3⟩ := hr_lev h n
    exact ⟨hr_assign h (within_down h1) (within_down h2) (within_down h3), hr_cond h (within_down h1) (within_down h2) (within_down h3), hr_unary h (within_down h1) (within_down h3)⟩
theorem hr_expr (h : TokE L E) (n : Nat) : Hr (L := L) E P (expr n) Nd := within_down (hr_lev h n).1
end
end Go.Proofs.TR
/- The plain parser's trees are good: statements, what stands at the top, all. -/
set_option maxRecDepth 100000
namespace Go.Proofs.TR
open Go Go.En Go.En.Dop
section
variable {L : List Tok} {E : Int} {P : Z L → Prop}
section
variable {ex st : M L Int}
theorem hr_head (hx : Hr E (fun _ => True) ex Nd) : Hr (L := L) E P (head ex) Nd := by
  unfold head
  exact Hr.t (Hr.b hr_must fun _ => Hr.b hx.t fun a => Hr.b hr_must fun _ => Hr.p fun _ p _ => p.1.2)
theorem nd_neg {s : Z L} : Nd (-1) s := by simp only [Nd]; omega
theorem hr_maybe (hx : Hr E (fun _ => True) ex Nd) {x : Str} : Hr (L := L) E P (maybe ex x) Nd := by
  unfold maybe
  exact Hr.t (Hr.b hr_take fun _ => Hr.i (Hr.p fun _ _ _ => nd_neg) (Hr.b hx.t fun a => Hr.b hr_must fun _ => Hr.p fun _ p _ => p.1.2))
theorem hr_blockL (h : TokE L E) (hs : Hr E (fun _ => True) st Nd) : ∀ (f : Nat) (l : List Int), Hr (L := L) E (Nds l) (blockL st f l) Nd
  | 0, l => hr_list h.pos
  | f + 1, l => by
    unfold blockL
    have hl : Hr (L := L) E (fun s => Nds l s ∧ True) (list l) Nd := (hr_list h.pos).w fun _ p => p.1
    refine Hr.b hr_take fun _ => Hr.i hl (Hr.g fun z => Hr.i ?_ hl)
    exact Hr.b hs.t fun x => (hr_blockL h hs f _).w fun _ p => nds_snoc p.1.1 p.2
theorem nds_nil {s : Z L} : Nds [] s := fun x hx => by cases hx
theorem hr_block (h : TokE L E) (hs : Hr E (fun _ => True) st Nd) : Hr (L := L) E P (block st) Nd := by
  unfold block
  refine Hr.t (Hr.b (hr_now h) fun t => Hr.b hr_must fun _ => Hr.b hr_left fun f => Hr.b ((hr_blockL h hs _ []).w fun _ _ => nds_nil) fun a => hr_put ?_)
  (intro s p g; have h4 := g.T.len; simp only [Nd, Ty, At] at p; simp only [GN, node]; omega)
theorem hr_one (h : TokE L E) (hx : Hr E (fun _ => True) ex Nd) (hs : Hr E (fun _ => True) st Nd) : Hr (L := L) E P (one ex st) Nd := by
  unfold one
  refine Hr.t (Hr.b (hr_now h) fun t => Hr.b hr_is fun _ => Hr.i (hr_block h hs) ?_)
  refine Hr.b hr_take fun _ => Hr.i (hr_put ?_) ?_
  · (intro s p g; have h4 := g.T.len; simp only [Nd, Ty, At] at p; simp only [GN, node]; omega)
  refine Hr.b hr_types fun _ => Hr.i ?_ ?_
  · refine Hr.b hr_base fun b => Hr.b hr_kind fun x => Hr.b (hr_array.w fun _ p => p.1.2) fun y => Hr.b hr_take fun _ => Hr.i (Hr.b hx.t fun a => Hr.b hr_must fun _ => hr_put ?_) (Hr.b hr_must fun _ => hr_put ?_)
    · (intro s p g; have h4 := g.T.len; simp only [Nd, Ty, At] at p; simp only [GN, node]; omega)
    · (intro s p g; have h4 := g.T.len; simp only [Nd, Ty, At] at p; simp only [GN, node]; omega)
  refine Hr.b hr_take fun _ => Hr.i (Hr.b (hr_head hx) fun a => Hr.b hs.t fun b => Hr.b hr_take fun _ => Hr.i (Hr.b hs.t fun c => hr_put ?_) (hr_put ?_)) ?_
  · (intro s p g; have h4 := g.T.len; simp only [Nd, Ty, At] at p; simp only [GN, node]; omega)
  · (intro s p g; have h4 := g.T.len; simp only [Nd, Ty, At] at p; simp only [GN, node]; omega)
  refine Hr.b hr_take fun _ => Hr.i (Hr.b (hr_head hx) fun a => Hr.b hs.t fun b => hr_put ?_) ?_
  · (intro s p g; have h4 := g.T.len; simp only [Nd, Ty, At] at p; simp only [GN, node]; omega)
  refine Hr.b hr_take fun _ => Hr.i (Hr.b hs.t fun b => Hr.b hr_must fun _ => Hr.b (hr_head hx) fun a => Hr.b hr_must fun _ => hr_put ?_) ?_
  · (intro s p g; have h4 := g.T.len; simp only [Nd, Ty, At] at p; simp only [GN, node]; omega)
  refine Hr.b hr_take fun _ => Hr.i (Hr.b hr_must fun _ => Hr.b (hr_maybe hx) fun a => Hr.b (hr_maybe hx) fun b => Hr.b (hr_maybe hx) fun c => Hr.b hs.t fun d => hr_put ?_) ?_
  · (intro s p g; have h4 := g.T.len; simp only [Nd, Ty, At] at p; simp only [GN, node]; omega)
  refine Hr.b hr_take fun _ => Hr.i (Hr.b hr_must fun _ => hr_put ?_) ?_
  · (intro s p g; have h4 := g.T.len; simp only [Nd, Ty, At] at p; simp only [GN, node]; omega)
  refine Hr.b hr_take fun _ => Hr.i (Hr.b hr_must fun _ => hr_put ?_) ?_
  · (intro s p g; have h4 := g.T.len; simp only [Nd, Ty, At] at p; simp only [GN, node]; omega)
  refine Hr.b hr_take fun _ => Hr.i (Hr.b (hr_maybe hx) fun a => hr_put ?_) ?_
  · (intro s p g; have h4 := g.T.len; simp only [Nd, Ty, At] at p; simp only [GN, node]; omega)
  refine Hr.b hr_take fun _ => Hr.i (Hr.b hr_kind fun x => Hr.b hr_must fun _ => hr_put ?_) ?_
  · (intro s p g; have h4 := g.T.len; simp only [Nd, Ty, At] at p; simp only [GN, node]; omega)
  refine Hr.b hr_take fun _ => Hr.i (Hr.b (hr_head hx) fun a => Hr.b (hr_block h hs) fun b => hr_put ?_) ?_
  · (intro s p g; have h4 := g.T.len; simp only [Nd, Ty, At] at p; simp only [GN, node]; omega)
  refine Hr.b hr_take fun _ => Hr.i (Hr.b hr_take fun _ => Hr.i (Hr.b hr_kind fun x => Hr.b hr_must fun _ => Hr.b hs.t fun a => hr_put ?_) (Hr.b hr_kind fun x => Hr.b hr_must fun _ => Hr.b hs.t fun a => hr_put ?_)) ?_
  · (intro s p g; have h4 := g.T.len; simp only [Nd, Ty, At] at p; simp only [GN, node]; omega)
  · (intro s p g; have h4 := g.T.len; simp only [Nd, Ty, At] at p; simp only [GN, node]; omega)
  refine Hr.b hr_take fun _ => Hr.i (Hr.b hr_must fun _ => Hr.b hs.t fun a => hr_put ?_) ?_
  · (intro s p g; have h4 := g.T.len; simp only [Nd, Ty, At] at p; simp only [GN, node]; omega)
  refine Hr.g fun z => Hr.i (Hr.b hr_kind fun x => Hr.b hr_must fun _ => Hr.b hs.t fun a => hr_put ?_) (Hr.b hx.t fun a => Hr.b hr_must fun _ => hr_put ?_)
  · (intro s p g; have h4 := g.T.len; simp only [Nd, Ty, At] at p; simp only [GN, node]; omega)
  · (intro s p g; have h4 := g.T.len; simp only [Nd, Ty, At] at p; simp only [GN, node]; omega)
end
theorem hr_oneN (h : TokE L E) : ∀ (n : Nat), Hr (L := L) E (fun _ => True) (oneN n) Nd
  | 0 => Hr.p fun _ _ _ => nd_neg
  | n + 1 => hr_one h (hr_expr h n) (within_down (hr_oneN h n))
theorem hr_stmt (h : TokE L E) (n : Nat) : Hr (L := L) E P (stmt n) Nd := within_down (hr_oneN h n)
def Pa (E : Int) (x : Nde) (s : Z L) : Prop := GN s.T.length s.N.length E x ∧ x.a = -1 ∧ x.b = -1 ∧ x.c = -1 ∧ x.d = -1
instance {x : Nde} : Sta (L := L) (Pa E x) := ⟨⟨fun hs h => by
  have h1 := hs.N.length_le
  have h2 := hs.T.length_le
  unfold Pa GN at h ⊢
  omega⟩⟩
theorem hr_param (h : TokE L E) : Hr (L := L) E P param (Pa E) := by
  unfold param
  refine Hr.t (Hr.b (hr_now h) fun t => Hr.b hr_base fun b => Hr.b hr_kind fun x => Hr.p ?_)
  intro s p g
  have h4 := g.T.len
  simp only [Nd, Ty, At] at p
  refine ⟨?_, rfl, rfl, rfl, rfl⟩
  simp only [GN, node]
  omega
theorem hr_field (h : TokE L E) : Hr (L := L) E P field Nd := by
  unfold field
  refine Hr.t (Hr.b (hr_param h) fun f => Hr.b (hr_array.w fun s p => ?_) fun y => Hr.b hr_must fun _ => hr_put ?_)
  · have := p.2
    unfold Pa GN at this
    simp only [Ty]; omega
  · intro s p g
    have h1 := p.1.1.2
    have h2 := p.1.2
    unfold Pa GN at h1
    simp only [Ty] at h2
    simp only [GN]
    omega
def Ndo (r : Option (List Int)) (s : Z L) : Prop := ∀ l, r = some l → Nds l s
instance {r : Option (List Int)} : Sta (L := L) (Ndo r) := ⟨⟨fun hs h l e => Sta.mono hs (h l e)⟩⟩
theorem hr_fieldsL (h : TokE L E) : ∀ (f : Nat) (l : List Int), Hr (L := L) E (Nds l) (fieldsL f l) Ndo
  | 0, l => Hr.p fun _ p _ l' e => by cases e; exact p
  | f + 1, l => by
    have e : (fieldsL (f + 1) l : M L _) = (if l.length = 0 then field >>= fun x => getZ >>= fun s => if s.e = 0 then fieldsL f (l ++ [x]) else pure none else take [125] >>= fun b => if b = true then pure (some l) else getZ >>= fun s => if s.e = 0 then field >>= fun x => getZ >>= fun s => if s.e = 0 then fieldsL f (l ++ [x]) else pure none else pure (some l)) := id rfl
    rw [e]
    have no : ∀ (P : Z L → Prop), Hr (L := L) E P (pure none) Ndo := fun P => Hr.p fun _ _ _ l e => by cases e
    refine Hr.i (Hr.b (hr_field h) fun x => Hr.g fun z => Hr.i ((hr_fieldsL h f _).w fun _ p => nds_snoc p.1 p.2) (no _)) ?_
    refine Hr.b hr_take fun _ => Hr.i (Hr.p fun _ p _ l' e => by cases e; exact p.1) (Hr.g fun z => Hr.i ?_ (Hr.p fun _ p _ l' e => by cases e; exact p.1))
    exact Hr.b (hr_field h) fun x => Hr.g fun z => Hr.i ((hr_fieldsL h f _).w fun _ p => nds_snoc p.1.1 p.2) (no _)
theorem hr_putp (P : Z L → Prop) {x : Nde} (hp : ∀ s, P s → Pa E x s) : Hr (L := L) E P (put x) Nd := hr_put fun s p _ => (hp s p).1
theorem hr_paramsL (h : TokE L E) : ∀ (f : Nat) (l : List Int), Hr (L := L) E (Nds l) (paramsL f l) Nds
  | 0, l => Hr.p fun _ p _ => p
  | f + 1, l => by
    unfold paramsL
    refine Hr.b hr_take fun _ => Hr.i (Hr.p fun _ p _ => p.1) (Hr.g fun z => Hr.i (Hr.i ?_ ?_) (Hr.p fun _ p _ => p.1))
    · exact Hr.b hr_must fun _ => Hr.b (hr_param h) fun x => Hr.b (hr_putp _ fun _ p => p.2) fun y => (hr_paramsL h f _).w fun _ p => nds_snoc p.1.1.1.1 p.2
    · exact Hr.b (hr_param h) fun x => Hr.b (hr_putp _ fun _ p => p.2) fun y => (hr_paramsL h f _).w fun _ p => nds_snoc p.1.1.1 p.2
theorem hr_top (h : TokE L E) (n : Nat) : Hr (L := L) E P (top n) Nd := by
  unfold top
  refine Hr.t (Hr.b (hr_now h) fun t => Hr.g fun z => Hr.i ?_ ?_)
  · refine Hr.b hr_must fun _ => Hr.b hr_kind fun x => Hr.b hr_must fun _ => Hr.b hr_left fun f => Hr.b ((hr_fieldsL h _ []).w fun _ _ => nds_nil) fun r => ?_
    rcases r with _ | l
    · exact Hr.p fun _ _ _ => nd_neg
    · refine Hr.b hr_must fun _ => Hr.b ((hr_list h.pos).w fun _ p => p.1.2 l rfl) fun a => hr_put ?_
      (intro s p g; have h4 := g.T.len; simp only [Nd, Ty, At] at p; simp only [GN, node]; omega)
  · refine Hr.b (hr_param h) fun x => Hr.b hr_take fun _ => Hr.i ?_ ?_
    · refine Hr.b hr_left fun f => Hr.b ((hr_paramsL h _ []).w fun _ _ => nds_nil) fun l => Hr.b ((hr_list h.pos).w fun _ p => p.2) fun a => Hr.b (hr_block h (hr_stmt h n)) fun b => hr_put ?_
      intro s p g
      have h1 := p.1.1.1.1.1.2
      have h2 := p.1.2
      have h3 := p.2
      have ht := p.1.1.1.1.1.1.2
      unfold Pa GN at h1
      simp only [Nd, At] at h2 h3 ht
      simp only [GN, node]
      omega
    · refine Hr.b (hr_array.w fun s p => ?_) fun y => Hr.b hr_take fun _ => Hr.i (Hr.b hr_take fun _ => Hr.i (Hr.b hr_kind fun v => Hr.b hr_must fun _ => hr_put ?_) (Hr.b hr_kind fun v => Hr.b hr_must fun _ => hr_put ?_)) (Hr.b hr_must fun _ => hr_put ?_)
      · have := p.1.2
        unfold Pa GN at this
        simp only [Ty]; omega
      · (intro s p g; have h4 := g.T.len; simp only [Nd, Ty, At] at p; simp only [GN, node]; omega)
      · (intro s p g; have h4 := g.T.len; simp only [Nd, Ty, At] at p; simp only [GN, node]; omega)
      · (intro s p g; have h4 := g.T.len; simp only [Nd, Ty, At] at p; simp only [GN, node]; omega)
theorem hr_topsL (h : TokE L E) (n : Nat) : ∀ (f : Nat) (l : List Int), Hr (L := L) E (Nds l) (topsL n f l) Nds
  | 0, l => Hr.p fun _ p _ => p
  | f + 1, l => by
    have e : (topsL n (f + 1) l : M L _) = (getZ >>= fun s => if s.e = 0 then nowM >>= fun t => if t.kind = 0 then pure l else top n >>= fun x => topsL n f (l ++ [x]) else pure l) := id rfl
    rw [e]
    refine Hr.g fun z => Hr.i (Hr.b (hr_now h) fun t => Hr.i (Hr.p fun _ p _ => p.1) (Hr.b (hr_top h n) fun x => (hr_topsL h n f _).w fun _ p => nds_snoc p.1.1 p.2)) (Hr.p fun _ p _ => p)
theorem hr_whole (h : TokE L E) : Hr (L := L) E P whole Nd := by
  unfold whole
  exact Hr.t (Hr.b hr_left fun f => Hr.b ((hr_topsL h 101 _ []).w fun _ _ => nds_nil) fun l => (hr_list h.pos).w fun _ p => p.2)
theorem parse_good (h : TokE L E) (he : (parse L).2.2 = 0) : (∀ n, n < (parse L).1.nodes.length → GN (parse L).1.types.length n E ((parse L).1.nodes.getD n d5)) ∧ GT (parse L).1.types ∧ (parse L).1.top < ((parse L).1.nodes.length : Nat) := by
  have g0 : Good E (first L) := ⟨fun n hn => absurd hn (Nat.not_lt_zero n), ⟨[], rfl⟩, fun n h4 hn => absurd hn (by show ¬ n < 4; omega)⟩
  have g1 := hr_whole (P := fun _ => True) h (first L) trivial g0
  unfold parse at he ⊢
  simp only at he ⊢
  split at he
  · rename_i hc
    rw [if_pos hc]
    exact ⟨g1.1.N, g1.1.T, g1.2.2⟩
  · rename_i hc; exact absurd he hc
end
end Go.Proofs.TR
