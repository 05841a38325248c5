/- The parser's models are the plain parser: expressions at every depth. -/
import Derived.Test.YtkpokomghbhadaaGreatDoorTrC
set_option maxRecDepth 100000
namespace Go.Proofs.TR
open Go Go.En Go.En.Dop
section
variable {L : List Tok}
theorem dp_down {n : Nat} {s : Z L} (hd : Dp (n + 1) s) (h : s.deep + 1 ≤ 100) : Dp n (downZ s) := by
 have a1 := (downZ_ok s).1
 have := hd.lo
 have := hd.more
 exact ⟨by omega,by omega,by omega⟩
def fu (n : Nat) : Nat := 18 * n + 2
def HypL (L : List Tok) (n : Nat) : Prop := Hyp (L := L) (within (lev n).1) (within (lev n).2.1) (within (lev n).2.2) (fu n) n
theorem hyp_0 (h : TokL L) : HypL L 0 := by
 have no : ∀ (m : MT) (f : M L Int) (s : Z L),Dp 0 s → Tryz.within m (zt s) = some (enc ((within f).run s)) := fun m f s hd => r_within h hd.lo hd.hi fun he => absurd he (down_deep (by have := hd.more; omega))
 refine ⟨fun k s hk hd => ?_,fun k s hk hd => ?_,fun k s hk hd => ?_,fun s hd he => ?_,it_within (it_lev 0)⟩
 ·obtain ⟨k,rfl⟩ : ∃ k',k = k' + 2 := ⟨k - 2,by unfold fu at hk; omega⟩
  rw [Tryz.m118_eq,w89_eq]
  exact (ob (no _ (lev 0).1 s hd)).trans rfl
 ·obtain ⟨k,rfl⟩ : ∃ k',k = k' + 1 := ⟨k - 1,by unfold fu at hk; omega⟩
  rw [w95_eq]
  exact no _ (lev 0).2.1 s hd
 ·obtain ⟨k,rfl⟩ : ∃ k',k = k' + 1 := ⟨k - 1,by unfold fu at hk; omega⟩
  rw [w98_eq]
  exact no _ (lev 0).2.2 s hd
 ·exact pg_within (fun hc => absurd hc (down_deep (by have := hd.more; omega))) he
section
variable {ex cx ux : M L Int} {n0 n : Nat}
theorem hyp_x (h : TokL L) (H : Hyp (L := L) ex cx ux n0 n) (k : Nat) (hk : n0 + 16 ≤ k) (s : Z L) (hd : Dp (n + 1) s) : Tryz.within (Tryz.m125.R k) (zt s) = some (enc ((within (assign ex cx ux)).run s)) :=
 r_within h hd.lo hd.hi fun _ hle => r_assign h H k hk (downZ s) (dp_down hd hle)
theorem hyp_c (h : TokL L) (H : Hyp (L := L) ex cx ux n0 n) (k : Nat) (hk : n0 + 16 ≤ k) (s : Z L) (hd : Dp (n + 1) s) : Tryz.within (Tryz.m131.R k) (zt s) = some (enc ((within (cond ex cx ux)).run s)) :=
 r_within h hd.lo hd.hi fun _ hle => r_cond h H k (by omega) (downZ s) (dp_down hd hle)
theorem hyp_u (h : TokL L) (H : Hyp (L := L) ex cx ux n0 n) (k : Nat) (hk : n0 + 16 ≤ k) (s : Z L) (hd : Dp (n + 1) s) : Tryz.within (Tryz.m134.R k) (zt s) = some (enc ((within (unary ex ux)).run s)) :=
 r_within h hd.lo hd.hi fun _ hle => r_unary h H k (by omega) (downZ s) (dp_down hd hle)
theorem hyp_s (h : TokL L) (H : Hyp (L := L) ex cx ux n0 n) : Hyp (L := L) (within (assign ex cx ux)) (within (cond ex cx ux)) (within (unary ex ux)) (n0 + 18) (n + 1) := by
 refine ⟨fun k s hk hd => ?_,fun k s hk hd => ?_,fun k s hk hd => ?_,fun s hd he => ?_,it_within (it_assign H.it)⟩
 ·obtain ⟨k,rfl⟩ : ∃ k',k = k' + 2 := ⟨k - 2,by omega⟩
  rw [Tryz.m118_eq,w89_eq]
  exact (ob (hyp_x h H k (by omega) s hd)).trans rfl
 ·obtain ⟨k,rfl⟩ : ∃ k',k = k' + 1 := ⟨k - 1,by omega⟩
  rw [w95_eq]
  exact hyp_c h H k (by omega) s hd
 ·obtain ⟨k,rfl⟩ : ∃ k',k = k' + 1 := ⟨k - 1,by omega⟩
  rw [w98_eq]
  exact hyp_u h H k (by omega) s hd
 ·exact pg_within (fun _ => pg_assign) he
end
theorem hyp_lev (h : TokL L) (n : Nat) : HypL L n := by
 induction n with
 | zero => exact hyp_0 h
 | succ n ih =>
  have e : fu (n + 1) = fu n + 18 := by unfold fu; omega
  unfold HypL at ih ⊢
  rw [e]
  exact hyp_s h ih
theorem r_expr (h : TokL L) (n k : Nat) (s : Z L) (hk : fu n ≤ k) (hd : Dp n s) : Tryz.m118 k L (I s.at_) s.N s.T s.top s.deep s.e s.wh = some ((((expr n).run s).1,()),(zt ((expr n).run s).2,())) := (hyp_lev h n).hx k s hk hd
end
end Go.Proofs.TR
/- The parser's models are the plain parser: statements. -/
set_option maxRecDepth 100000
namespace Go.Proofs.TR
open Go Go.En Go.En.Dop
section
variable {L : List Tok}
abbrev St' := List Tok × Int × List Nde × List Typ × Int × Int × Int × Int × Unit
theorem alt (h : TokL L) {x : Str} {s : Z L} {α β : Type} {FA FB : (Bool × Unit) × St' × Unit → Option β} {A B : M L α} {g : α × Z L → β}
  (ht : ∀ s1,Step s s1 → FA ((true,()),(zt s1,())) = some (g (A.run s1))) (hf : FB ((false,()),(zt s,())) = some (g (B.run s))) :
  (Tryz.m61 x L (I s.at_) s.N s.T s.top s.deep s.e s.wh).bind (fun y => if y.fst.fst = true then FA y else FB y) = some (g ((take x >>= fun r => if r = true then A else B).run s)) := by
 rw [r_take h,run_bind]
 rcases Bool.eq_false_or_eq_true ((take x).run s).1 with hb | hb
 ·rw [if_pos hb,Option.bind_some,hb,if_pos rfl]
  exact ht _ ((take x).step s)
 ·rw [if_neg (by rw [hb]; decide),Option.bind_some,hb,if_neg (by decide),take_no hb]
  exact hf
section
variable {ex st : M L Int} {n1 n : Nat}
structure HypS (ex st : M L Int) (n1 n : Nat) : Prop where
 hx : ∀ s,Dp n s → Tryz.m118 FU L (I s.at_) s.N s.T s.top s.deep s.e s.wh = some (((ex.run s).1,()),(zt (ex.run s).2,()))
 hs : ∀ k s,n1 ≤ k → Dp n s → Tryz.m84 k L (I s.at_) s.N s.T s.top s.deep s.e s.wh = some (((st.run s).1,()),(zt (st.run s).2,()))
 pg : ∀ s,Dp n s → (st.run s).2.e = 0 → s.at_ < (st.run s).2.at_
 it : ∀ s,(st.run s).1 < ((st.run s).2.N.length : Nat)
theorem r_head (h : TokL L) (H : HypS (L := L) ex st n1 n) (s : Z L) (hd : Dp n s) : Tryz.m119 L (I s.at_) s.N s.T s.top s.deep s.e s.wh = some ((((head ex).run s).1,()),(zt ((head ex).run s).2,())) := by
 rw [Tryz.m119_eq]
 simp only [r_must h,H.hx,dp_run,hd,Option.bind_some,zt,head,run_bind,run_pure]
theorem r_maybe (h : TokL L) (H : HypS (L := L) ex st n1 n) (x : Str) (s : Z L) (hd : Dp n s) : Tryz.m120 x L (I s.at_) s.N s.T s.top s.deep s.e s.wh = some ((((maybe ex x).run s).1,()),(zt ((maybe ex x).run s).2,())) := by
 rw [Tryz.m120_eq]
 refine alt (g := enc) h (fun s1 hs => rfl) ?_
 simp only [r_must h,H.hx,hd,Option.bind_some,zt,run_bind,run_pure,enc]
theorem r_blockL (h : TokL L) (H : HypS (L := L) ex st n1 n) (k : Nat) (hk : n1 ≤ k) (b : Nde) : ∀ (f : Nat) (l : List Int) (s : Z L),Dp n s → (if s.e = 0 then L.length - s.at_ + 1 else 0) < f → l.length + f ≤ 2000000 → Items s l → Tryz.m65_4 k l L (I s.at_) s.N s.T s.top s.deep s.e s.wh b = some (enc ((blockL st f l >>= fun a => put { b with a := a }).run s))
 | 0,l,s,_,hf,_,_ => by omega
 | f + 1,l,s,hd,hf,hl,hi => by
  have fin : ∀ s' : Z L,Step s s' → (Tryz.m34.R (((),l,()),((L,I s'.at_,s'.N,s'.T,s'.top,s'.deep,s'.e,s'.wh,()),()))) = some (enc ((list l).run s')) := fun s' hs => r_list h l s' (by omega) (hi.step hs)
  rw [Tryz.m65_4_eq]
  simp only [r_take h,Option.bind_some,zt,blockL,run_bind,run_ite,getZ]
  have hs1 := (take [125]).step s
  rcases Bool.eq_false_or_eq_true ((take [125]).run s).1 with hb | hb
  ·simp only [hb,Bool.not_true,Bool.false_eq_true,if_false,if_true]
   refine (ob (fin _ hs1)).trans ?_
   exact (ob (r_put h _ _)).trans rfl
  ·simp only [hb,Bool.not_false,if_true,Bool.false_eq_true,if_false,take_no hb]
   by_cases he : s.e = 0
   ·rw [if_pos he] at hf
    rw [if_pos (decide_eq_true he),if_pos he,H.hs k s hk hd]
    simp only [Option.bind_some,zt]
    have hs3 := st.step s
    have ha3 := hs3.at_
    have hb3 := (st.run s).2.hat
    rw [if_pos (room8 (by omega))]
    refine r_blockL h H k hk b f _ _ (hd.step hs3) ?_ (by simp only [List.length_append,List.length_singleton]; omega) ((hi.step hs3).snoc (H.it s))
    split
    ·rename_i he3; have := H.pg s hd he3; omega
    ·omega
   ·rw [if_neg (by simpa using he),if_neg he]
    refine (ob (fin s (Step.refl s))).trans ?_
    exact (ob (r_put h _ _)).trans rfl
theorem r_block (h : TokL L) (H : HypS (L := L) ex st n1 n) (k : Nat) (hk : n1 + 1 ≤ k) (s : Z L) (hd : Dp n s) : Tryz.m65 k L (I s.at_) s.N s.T s.top s.deep s.e s.wh = some ((((block st).run s).1,()),(zt ((block st).run s).2,())) := by
 obtain ⟨k,rfl⟩ : ∃ k',k = k' + 1 := ⟨k - 1,by omega⟩
 have hlen := h.len
 rw [Tryz.m65_eq]
 simp only [r_now h,r_node,r_must h,Option.bind_some,zt]
 have hd1 : Dp n ((must [123]).run s).2 := (dp_run _ _).2 hd
 rw [r_blockL h H k (by omega) (node 43 (now s).at_) (L.length - ((must [123]).run s).2.at_ + 2) [] _ hd1 (by split <;> omega) (by simp only [List.length_nil]; omega) (fun x hx => by cases hx)]
 rfl
theorem r_named (h : TokL L) (s : Z L) : Tryz.m121 L (I s.at_) s.N s.T s.top s.deep s.e s.wh = some ((namedZ s,()),(zt s,())) := by
 have hlen := h.len
 have hat := s.hat
 rw [Tryz.m121_eq]
 simp only [r_now h,Option.bind_some,zt]
 by_cases h1 : (now s).kind = 1
 ·have hl := now_lt (s := s) (by rw [h1]; decide)
  have i1 : inR (I s.at_ + 1) = true := inR_of (by simp only [I]; omega) (by simp only [I]; omega)
  rw [if_pos (decide_eq_true h1),if_pos i1]
  by_cases h2 : s.at_ + 1 < L.length
  ·have e2 : decide (I s.at_ + 1 < I L.length) = true := decide_eq_true (by simp only [I]; omega)
   have e3 : decide ((0 : Int) ≤ I s.at_ + 1 ∧ I s.at_ + 1 < I L.length) = true := decide_eq_true (by simp only [I]; omega)
   rw [if_pos e2,if_pos i1,if_pos e3,show (I s.at_ + 1).toNat = s.at_ + 1 by simp only [I]; omega]
   simp [namedZ,h1,h2]
  ·have e2 : ¬ decide (I s.at_ + 1 < I L.length) = true := by simp only [I,decide_eq_true_eq]; omega
   rw [if_neg e2]
   simp [namedZ,h2]
 ·rw [if_neg (by simpa using h1)]
  simp [namedZ,h1]
theorem r_64 (h : TokL L) (k : Nat) (b : Nde) (s : Z L) : Tryz.m103_64 k L (I s.at_) s.N s.T s.top s.deep s.e s.wh b = some ((((put b).run s).1,()),(zt ((put b).run s).2,())) := by
 rw [Tryz.m103_64_eq,r_put h]
 rfl
theorem r_13 (h : TokL L) (k : Nat) (b : Nde) (s : Z L) : Tryz.m103_13 k L (I s.at_) s.N s.T s.top s.deep s.e s.wh b = some ((((must [59] >>= fun _ => put b).run s).1,()),(zt ((must [59] >>= fun _ => put b).run s).2,())) := by
 rw [Tryz.m103_13_eq,r_must h]
 simp only [Option.bind_some,zt,r_64 h,run_bind]
theorem kind_num (h : TokL L) (s : Z L) : 0 ≤ ((kind 3).run s).1.n ∧ ((kind 3).run s).1.n ≤ 1000000000000 := by
 have e : (TR.kind 3).run s = (if (now s).kind = 3 ∧ s.e = 0 then (now s,bump s) else (noTok (now s).at_,failZ 5 s)) := by
  show ((if (now s).kind = 3 ∧ s.e = 0 then _ else _ : M L Tok)).run s = _
  rw [run_ite]; rfl
 rw [e]
 split
 ·rename_i hc
  have hl := now_lt (s := s) (by rw [hc.1]; decide)
  rw [hl.2.2]
  exact h.num _ (getD_mem hl.2.1)
 ·exact ⟨Int.le_refl 0,show (0 : Int) ≤ _ by decide⟩
theorem r_53 (h : TokL L) (H : HypS (L := L) ex st n1 n) (k : Nat) (hk : n1 ≤ k) (g : Int) (hg : g = 1 ∨ g = -1) (b : Nde) (s : Z L) (hd : Dp n s) : Tryz.m103_53 k g L (I s.at_) s.N s.T s.top s.deep s.e s.wh b =
  some (enc ((kind 3 >>= fun x => must [58] >>= fun _ => st >>= fun a => put { b with n := g * x.n,a := a }).run s)) := by
 have hn := kind_num h s
 rw [Tryz.m103_53_eq,r_kind h 3 (by decide)]
 simp only [Option.bind_some]
 rw [if_pos (inR_of (by rcases hg with rfl | rfl <;> omega) (by rcases hg with rfl | rfl <;> omega))]
 simp only [r_must h,H.hs k _ hk,dp_run,hd,Option.bind_some,zt,r_64 h,run_bind,enc]
set_option linter.unusedSimpArgs false in
theorem r_one (h : TokL L) (H : HypS (L := L) ex st n1 n) (k : Nat) (hk : n1 + 2 ≤ k) (s : Z L) (hd : Dp n s) : Tryz.m103 k L (I s.at_) s.N s.T s.top s.deep s.e s.wh = some (enc ((one ex st).run s)) := by
 obtain ⟨k,rfl⟩ : ∃ k',k = k' + 1 := ⟨k - 1,by omega⟩
 have hS : ∀ s,Dp n s → Tryz.m84 k L (I s.at_) s.N s.T s.top s.deep s.e s.wh = some (((st.run s).1,()),(zt (st.run s).2,())) := fun s => H.hs k s (by omega)
 have hB : ∀ s,Dp n s → Tryz.m65 k L (I s.at_) s.N s.T s.top s.deep s.e s.wh = some ((((block st).run s).1,()),(zt ((block st).run s).2,())) := r_block h H k (by omega)
 rw [Tryz.m103_eq]
 refine (ob (r_now h s)).trans ?_
 refine (ob (r_node 44 _)).trans ?_
 refine (ob (r_is h [123] s)).trans ?_
 unfold one
 rw [run_now]
 show (if isZ [123] s = true then _ else _) = some (enc ((is [123] >>= _).run s))
 rw [run_bind,show ((is [123]).run s : Bool × Z L) = (isZ [123] s,s) from rfl]
 generalize (now s).at_ = at_
 rcases Bool.eq_false_or_eq_true (isZ [123] s) with hb | hb
 ·rw [if_pos hb,hb,if_pos rfl]
  exact (ob (hB s hd)).trans rfl
 rw [if_neg (by rw [hb]; decide),hb,if_neg (fun hc => Bool.false_ne_true hc)]
 refine alt (g := enc) h (fun s1 hs => r_64 h k _ s1) ?_
 refine (ob (r_types h s)).trans ?_
 show (if (types.run s).1 = true then _ else _) = some (enc ((types >>= _).run s))
 rw [run_bind,types_st]
 rcases Bool.eq_false_or_eq_true (types.run s).1 with hb | hb
 ·rw [if_pos hb,hb,if_pos rfl]
  refine (ob (r_base h s)).trans ?_
  rw [run_bind]
  have hd1 : Dp n (base.run s).2 := (dp_run _ _).2 hd
  generalize base.run s = r1 at hd1 ⊢
  refine (ob (r_kind h 1 (by decide) r1.2)).trans ?_
  rw [run_bind]
  have hd2 : Dp n ((kind 1).run r1.2).2 := (dp_run _ _).2 hd1
  generalize (kind 1).run r1.2 = r2 at hd2 ⊢
  refine (ob (r_array h r1.1 r2.2)).trans ?_
  rw [run_bind]
  have hd3 : Dp n ((array r1.1).run r2.2).2 := (dp_run _ _).2 hd2
  generalize (array r1.1).run r2.2 = r3 at hd3 ⊢
  refine alt (g := enc) h (fun s1 hs => ?_) ?_
  ·have hd4 := hd3.step hs
   refine (ob (H.hx s1 hd4)).trans ?_
   rw [run_bind]
   exact (r_13 h k _ _)
  ·exact r_13 h k _ _
 rw [if_neg (by rw [hb]; decide),hb,if_neg (fun hc => Bool.false_ne_true hc)]
 refine alt (g := enc) h (fun s1 hs => ?_) ?_
 ·have hd1 := hd.step hs
  refine (ob (r_head h H s1 hd1)).trans ?_
  rw [run_bind]
  have hd2 : Dp n ((head ex).run s1).2 := (dp_run _ _).2 hd1
  generalize (head ex).run s1 = r1 at hd2 ⊢
  refine (ob (hS r1.2 hd2)).trans ?_
  rw [run_bind]
  have hd3 : Dp n (st.run r1.2).2 := (dp_run _ _).2 hd2
  generalize st.run r1.2 = r2 at hd3 ⊢
  refine alt (g := enc) h (fun s2 hs => ?_) ?_
  ·have hd4 := hd3.step hs
   refine (ob (hS s2 hd4)).trans ?_
   rw [run_bind]
   exact r_64 h k _ _
  ·exact r_64 h k _ _
 refine alt (g := enc) h (fun s1 hs => ?_) ?_
 ·have hd1 := hd.step hs
  simp only [zt,r_head h H,r_maybe h H,hS,hB,H.hx,r_must h,r_kind h 1 (by decide),r_64 h,dp_run,hd1,Option.bind_some,run_bind,enc,node]
 refine alt (g := enc) h (fun s1 hs => ?_) ?_
 ·have hd1 := hd.step hs
  simp only [zt,r_head h H,r_maybe h H,hS,hB,H.hx,r_must h,r_kind h 1 (by decide),r_64 h,dp_run,hd1,Option.bind_some,run_bind,enc,node]
 refine alt (g := enc) h (fun s1 hs => ?_) ?_
 ·have hd1 := hd.step hs
  simp only [zt,r_head h H,r_maybe h H,hS,hB,H.hx,r_must h,r_kind h 1 (by decide),r_64 h,dp_run,hd1,Option.bind_some,run_bind,enc,node]
 refine alt (g := enc) h (fun s1 hs => ?_) ?_
 ·have hd1 := hd.step hs
  simp only [zt,r_head h H,r_maybe h H,hS,hB,H.hx,r_must h,r_kind h 1 (by decide),r_64 h,dp_run,hd1,Option.bind_some,run_bind,enc,node]
 refine alt (g := enc) h (fun s1 hs => ?_) ?_
 ·have hd1 := hd.step hs
  simp only [zt,r_head h H,r_maybe h H,hS,hB,H.hx,r_must h,r_kind h 1 (by decide),r_64 h,dp_run,hd1,Option.bind_some,run_bind,enc,node]
 refine alt (g := enc) h (fun s1 hs => ?_) ?_
 ·have hd1 := hd.step hs
  simp only [zt,r_head h H,r_maybe h H,hS,hB,H.hx,r_must h,r_kind h 1 (by decide),r_64 h,dp_run,hd1,Option.bind_some,run_bind,enc,node]
 refine alt (g := enc) h (fun s1 hs => ?_) ?_
 ·have hd1 := hd.step hs
  simp only [zt,r_head h H,r_maybe h H,hS,hB,H.hx,r_must h,r_kind h 1 (by decide),r_64 h,dp_run,hd1,Option.bind_some,run_bind,enc,node]
 refine alt (g := enc) h (fun s1 hs => ?_) ?_
 ·have hd1 := hd.step hs
  simp only [zt,r_head h H,r_maybe h H,hS,hB,H.hx,r_must h,r_kind h 1 (by decide),r_64 h,dp_run,hd1,Option.bind_some,run_bind,enc,node]
 refine alt (g := enc) h (fun s1 hs => ?_) ?_
 ·have hd1 := hd.step hs
  refine alt (g := enc) h (fun s2 hs => ?_) ?_
  ·exact r_53 h H k (by omega) (-1) (.inr rfl) _ s2 (hd1.step hs)
  ·exact r_53 h H k (by omega) 1 (.inl rfl) _ s1 hd1
 refine alt (g := enc) h (fun s1 hs => ?_) ?_
 ·have hd1 := hd.step hs
  simp only [zt,r_head h H,r_maybe h H,hS,hB,H.hx,r_must h,r_kind h 1 (by decide),r_64 h,dp_run,hd1,Option.bind_some,run_bind,enc,node]
 refine (ob (r_named h s)).trans ?_
 rw [run_get,run_ite]
 by_cases hb : namedZ s = true
 ·rw [if_pos hb,if_pos hb]
  simp only [zt,hS,H.hx,r_must h,r_kind h 1 (by decide),r_64 h,dp_run,hd,Option.bind_some,run_bind,enc,node]
 ·rw [if_neg hb,if_neg hb]
  simp only [zt,hS,H.hx,r_must h,r_kind h 1 (by decide),r_64 h,dp_run,hd,Option.bind_some,run_bind,enc,node]
theorem pg_one : Pg (one ex st) := by
 unfold one
 refine Pg.r fun t => Pg.r fun r => Pg.ite pg_block (Pg.take (Pg.r fun r => Pg.ite (Pg.l pg_base) ?_))
 refine Pg.take (Pg.take (Pg.take (Pg.take (Pg.take (Pg.take (Pg.take (Pg.take (Pg.take (Pg.take (Pg.take ?_))))))))))
 exact Pg.r fun z => Pg.ite (Pg.l (Pg.kind (by decide))) (Pg.r fun _ => Pg.l Pg.must)
theorem it_block : It (block st) := It.r fun _ => It.r fun _ => It.r fun _ => It.r fun _ => It.put
theorem it_one : It (one ex st) := by
 unfold one
 refine It.r fun t => It.r fun r => It.ite it_block (It.r fun _ => It.ite It.put (It.r fun r => It.ite ?_ ?_))
 ·exact It.r fun _ => It.r fun _ => It.r fun _ => It.r fun _ => It.ite (It.r fun _ => It.r fun _ => It.put) (It.r fun _ => It.put)
 refine It.r fun _ => It.ite (It.r fun _ => It.r fun _ => It.r fun _ => It.ite (It.r fun _ => It.put) It.put) ?_
 refine It.r fun _ => It.ite (It.r fun _ => It.r fun _ => It.put) ?_
 refine It.r fun _ => It.ite (It.r fun _ => It.r fun _ => It.r fun _ => It.r fun _ => It.put) ?_
 refine It.r fun _ => It.ite (It.r fun _ => It.r fun _ => It.r fun _ => It.r fun _ => It.r fun _ => It.put) ?_
 refine It.r fun _ => It.ite (It.r fun _ => It.put) ?_
 refine It.r fun _ => It.ite (It.r fun _ => It.put) ?_
 refine It.r fun _ => It.ite (It.r fun _ => It.put) ?_
 refine It.r fun _ => It.ite (It.r fun _ => It.r fun _ => It.put) ?_
 refine It.r fun _ => It.ite (It.r fun _ => It.r fun _ => It.put) ?_
 refine It.r fun _ => It.ite (It.r fun _ => It.ite (It.r fun _ => It.r fun _ => It.r fun _ => It.put) (It.r fun _ => It.r fun _ => It.r fun _ => It.put)) ?_
 refine It.r fun _ => It.ite (It.r fun _ => It.r fun _ => It.put) ?_
 exact It.r fun _ => It.ite (It.r fun _ => It.r fun _ => It.r fun _ => It.put) (It.r fun _ => It.r fun _ => It.put)
end
theorem fu_le {n : Nat} (hn : n ≤ 1000) : fu n ≤ FU := by
 have h1 : fu 1000 ≤ FU := by decide
 exact Nat.le_trans (by unfold fu; omega) h1
def HypT (L : List Tok) (n : Nat) : Prop := HypS (L := L) (expr n) (stmt n) (4 * n + 2) n
theorem it_oneN : ∀ (n : Nat),It (L := L) (oneN n)
 | 0 => It.neg
 | _ + 1 => it_one
theorem hypT_0 (h : TokL L) : HypT L 0 := by
 refine ⟨fun s hd => r_expr h 0 FU s (fu_le (by decide)) hd,fun k s hk hd => ?_,fun s hd he => ?_,it_within (it_oneN 0)⟩
 ·obtain ⟨k,rfl⟩ : ∃ k',k = k' + 2 := ⟨k - 2,by omega⟩
  rw [Tryz.m84_eq,w66_eq]
  exact (ob (r_within h hd.lo hd.hi fun he => absurd he (down_deep (by have := hd.more; omega)))).trans rfl
 ·exact pg_within (fun hc => absurd hc (down_deep (by have := hd.more; omega))) he
theorem hypT_s (h : TokL L) (n : Nat) (hn : n + 1 ≤ 1000) (H : HypT L n) : HypT L (n + 1) := by
 refine ⟨fun s hd => r_expr h (n + 1) FU s (fu_le hn) hd,fun k s hk hd => ?_,fun s hd he => ?_,it_within (it_oneN (n + 1))⟩
 ·obtain ⟨k,rfl⟩ : ∃ k',k = k' + 2 := ⟨k - 2,by omega⟩
  rw [Tryz.m84_eq,w66_eq]
  exact (ob (r_within (f := one (expr n) (stmt n)) h hd.lo hd.hi fun _ hle => r_one h H k (by omega) (downZ s) (dp_down hd hle))).trans rfl
 ·exact pg_within (fun _ => pg_one) he
theorem hypT (h : TokL L) (n : Nat) (hn : n ≤ 1000) : HypT L n := by
 induction n with
 | zero => exact hypT_0 h
 | succ n ih => exact hypT_s h n hn (ih (by omega))
end
end Go.Proofs.TR
