/-
 The parser's models are the plain parser: expressions.
-/
import Derived.Test.YtkpokomghbhadaaGreatDoorTrB
set_option maxRecDepth 100000
namespace Go.Proofs.TR
open Go Go.En Go.En.Dop
section
variable {L : List Tok}
structure Dp (n : Nat) (s : Z L) : Prop where
 lo : 0 ≤ s.deep
 hi : s.deep ≤ 100
 more : 100 ≤ s.deep + n
theorem Dp.step {n : Nat} {s s' : Z L} (d : Dp n s) (k : Step s s') : Dp n s' := ⟨by rw [k.deep]; exact d.lo,by rw [k.deep]; exact d.hi,by rw [k.deep]; exact d.more⟩
def enc {α : Type} (r : α × Z L) : (α × Unit) × (List Tok × Int × List Nde × List Typ × Int × Int × Int × Int × Unit) × Unit := ((r.1,()),(zt r.2,()))
theorem ob {α β : Type} {m : Option α} {f : α → Option β} {x : α} (h : m = some x) : m.bind f = f x := by rw [h]; rfl
theorem w89_eq (k : Nat) (s : Z L) : Tryz.m102_1000125 (k + 1) L (I s.at_) s.N s.T s.top s.deep s.e s.wh = Tryz.within (Tryz.m125.R k) (zt s) := rfl
theorem w95_eq (k : Nat) (s : Z L) : Tryz.m102_1000131 (k + 1) L (I s.at_) s.N s.T s.top s.deep s.e s.wh = Tryz.within (Tryz.m131.R k) (zt s) := rfl
theorem w98_eq (k : Nat) (s : Z L) : Tryz.m102_1000134 (k + 1) L (I s.at_) s.N s.T s.top s.deep s.e s.wh = Tryz.within (Tryz.m134.R k) (zt s) := rfl
theorem w66_eq (k : Nat) (s : Z L) : Tryz.m102_1000103 (k + 1) L (I s.at_) s.N s.T s.top s.deep s.e s.wh = Tryz.within (Tryz.m103.R k) (zt s) := rfl
theorem r_within (h : TokL L) {m : MT} {f : M L Int} {s : Z L} (hd : 0 ≤ s.deep) (hd' : s.deep ≤ 100) (hm : (downZ s).e = 0 → s.deep + 1 ≤ 100 → m (((),()),(zt (downZ s),())) = some (enc (f.run (downZ s)))) : Tryz.within m (zt s) = some (enc ((within f).run s)) := by
 obtain ⟨a1,a2,a3,a4,a5,a6⟩ := downZ_ok s
 have hdec : ∀ (r : Int) (s' : Z L),s'.deep = s.deep + 1 → wDec r (zt s') = some (enc (r,deepZ s' (s'.deep - 1))) := fun r s' hs => by
  unfold wDec
  rw [if_pos (inR_of (by simp only [zt]; omega) (by simp only [zt]; omega))]
  rfl
 have htail : wTail m (zt (downZ s)) = some (enc ((within f).run s)) := by
  unfold wTail
  by_cases he : (downZ s).e = 0
  ·rw [if_neg (by simp [zt,he])]
   have hle : s.deep + 1 ≤ 100 := by
    apply Classical.byContradiction
    intro hn
    unfold downZ at he
    rw [if_pos (by omega)] at he
    unfold failZ at he
    split at he
    ·exact absurd he (show ¬ (6 : Int) = 0 by decide)
    ·exact absurd he (by assumption)
   rw [hm he hle]
   simp only [Option.bind_some,enc]
   rw [hdec _ _ (((f.step _).deep).trans a1)]
   simp only [within,if_pos he,enc]
  ·rw [if_pos (by simp [zt,he]),hdec _ _ a1]
   simp only [within,if_neg he,enc]
 unfold Tryz.within
 rw [if_pos (inR_of (by simp only [zt]; omega) (by simp only [zt]; omega))]
 by_cases hb : 100 < s.deep + 1
 ·rw [if_pos (by simp only [zt]; exact decide_eq_true hb)]
  have hf := r_fail h 6 (deepZ s (s.deep + 1))
  have hf' : Tryz.m81 6 (zt s).1 (zt s).2.1 (zt s).2.2.1 (zt s).2.2.2.1 (zt s).2.2.2.2.1 ((zt s).2.2.2.2.2.1 + 1) (zt s).2.2.2.2.2.2.1 (zt s).2.2.2.2.2.2.2.1 = some ((),(zt (failZ 6 (deepZ s (s.deep + 1))),())) := hf
  rw [hf']
  simp only [Option.bind_some]
  have e : failZ 6 (deepZ s (s.deep + 1)) = downZ s := by unfold downZ; rw [if_pos hb]
  rw [e]; exact htail
 ·rw [if_neg (by simp only [zt]; exact fun hc => hb (of_decide_eq_true hc))]
  have e : deepZ s (s.deep + 1) = downZ s := by unfold downZ; rw [if_neg hb]
  have e2 : sD (zt s) ((zt s).2.2.2.2.2.1 + 1) = zt (downZ s) := by rw [← e]; rfl
  rw [e2]; exact htail
theorem f_as : Lib.fields [61,32,43,61,32,45,61,32,42,61,32,47,61,32,37,61,32,38,61,32,124,61,32,94,61,32,60,60,61,32,62,62,61] = asOps := by kernel_rfl
theorem f_un : Lib.fields [43,43,32,45,45,32,45,32,33,32,126,32,42,32,38] = unOps := by kernel_rfl
theorem ok_as : (okL [61,32,43,61,32,45,61,32,42,61,32,47,61,32,37,61,32,38,61,32,124,61,32,94,61,32,60,60,61,32,62,62,61] && decide ((Lib.fields [61,32,43,61,32,45,61,32,42,61,32,47,61,32,37,61,32,38,61,32,124,61,32,94,61,32,60,60,61,32,62,62,61]).length ≤ maxLen)) = true := by kernel_rfl
theorem ok_un : (okL [43,43,32,45,45,32,45,32,33,32,126,32,42,32,38] && decide ((Lib.fields [43,43,32,45,45,32,45,32,33,32,126,32,42,32,38]).length ≤ maxLen)) = true := by kernel_rfl
def weak0 : List Str := [[124,124],[38,38],[124],[94],[38],[61,61,32,33,61],[60,32,60,61,32,62,32,62,61],[60,60,32,62,62],[43,32,45],[42,32,47,32,37]]
theorem r_weak : Tryz.m133 = some ((weak0,()),()) := Tryz.m133_eq
theorem f_weak0 : weak0.map Lib.fields = weak := by kernel_rfl
theorem ok_weak0 : weak0.all (fun x => okL x && decide ((Lib.fields x).length ≤ maxLen)) = true := by kernel_rfl
theorem f_weak (k : Nat) (hk : k < 10) : Lib.fields (weak0.getD k []) = weak.getD k [] := by
 rw [← f_weak0]
 have h1 : k < weak0.length := hk
 simp [List.getD_eq_getElem?_getD,h1]
theorem ok_weak (k : Nat) (hk : k < 10) : (okL (weak0.getD k []) && decide ((Lib.fields (weak0.getD k [])).length ≤ maxLen)) = true := by
 have h1 : k < weak0.length := hk
 have h2 := List.all_eq_true.1 ok_weak0 weak0[k] (List.getElem_mem h1)
 simpa [List.getD_eq_getElem?_getD,h1] using h2
section
variable {ex cx ux : M L Int} {n0 n : Nat}
structure Hyp (ex cx ux : M L Int) (n0 n : Nat) : Prop where
 hx : ∀ k s,n0 ≤ k → Dp n s → Tryz.m118 k L (I s.at_) s.N s.T s.top s.deep s.e s.wh = some (enc (ex.run s))
 hc : ∀ k s,n0 ≤ k → Dp n s → Tryz.m102_1000131 k L (I s.at_) s.N s.T s.top s.deep s.e s.wh = some (enc (cx.run s))
 hu : ∀ k s,n0 ≤ k → Dp n s → Tryz.m102_1000134 k L (I s.at_) s.N s.T s.top s.deep s.e s.wh = some (enc (ux.run s))
 pg : ∀ s,Dp n s → (ex.run s).2.e = 0 → s.at_ < (ex.run s).2.at_
 it : ∀ s,(ex.run s).1 < ((ex.run s).2.N.length : Nat)
theorem dp_run {α : Type} (m : M L α) (s : Z L) : Dp n (m.run s).2 ↔ Dp n s := by
 have hs := (m.step s).deep
 exact ⟨fun d => ⟨by rw [← hs]; exact d.lo,by rw [← hs]; exact d.hi,by rw [← hs]; exact d.more⟩,fun d => d.step (m.step s)⟩
theorem Hyp.x (H : Hyp (L := L) ex cx ux n0 n) (k : Nat) (s : Z L) (hk : n0 ≤ k) (hd : Dp n s) : Tryz.m118 k L (I s.at_) s.N s.T s.top s.deep s.e s.wh = some (((ex.run s).1,()),(zt (ex.run s).2,())) := H.hx k s hk hd
theorem Hyp.c (H : Hyp (L := L) ex cx ux n0 n) (k : Nat) (s : Z L) (hk : n0 ≤ k) (hd : Dp n s) : Tryz.m102_1000131 k L (I s.at_) s.N s.T s.top s.deep s.e s.wh = some (((cx.run s).1,()),(zt (cx.run s).2,())) := H.hc k s hk hd
theorem Hyp.u (H : Hyp (L := L) ex cx ux n0 n) (k : Nat) (s : Z L) (hk : n0 ≤ k) (hd : Dp n s) : Tryz.m102_1000134 k L (I s.at_) s.N s.T s.top s.deep s.e s.wh = some (((ux.run s).1,()),(zt (ux.run s).2,())) := H.hu k s hk hd
theorem Items.snoc {s : Z L} {l : List Int} {x : Int} (hl : Items s l) (hx : x < (s.N.length : Nat)) : Items s (l ++ [x]) := fun y hy => by
 rcases List.mem_append.1 hy with hy | hy
 ·exact hl y hy
 ·rw [List.mem_singleton.1 hy]; exact hx
theorem room8 {l : List Int} {x : Int} (hl : l.length ≤ 2000000) : (andC none (room 8 (l.length + [x].length))) = true := by
 simp only [andC,room,List.length_singleton,decide_eq_true_eq]; omega
theorem r_argsL (h : TokL L) (H : Hyp (L := L) ex cx ux n0 n) (k : Nat) (hk : n0 ≤ k) : ∀ (f : Nat) (l : List Int) (s : Z L),Dp n s → (if s.e = 0 then L.length - s.at_ + 1 else 0) < f → l.length + f ≤ 2000000 → Items s l → Tryz.m137_2 k l L (I s.at_) s.N s.T s.top s.deep s.e s.wh = some (enc ((argsL ex f l).run s))
 | 0,l,s,_,hf,_,_ => by omega
 | f + 1,l,s,hd,hf,hl,hi => by
  have fin : ∀ s' : Z L,Step s s' → (Tryz.m34.R (((),l,()),((L,I s'.at_,s'.N,s'.T,s'.top,s'.deep,s'.e,s'.wh,()),()))) = some (enc ((list l).run s')) := fun s' hs => r_list h l s' (by omega) (hi.step hs)
  rw [Tryz.m137_2_eq]
  simp only [r_take h,Option.bind_some,zt,argsL,run_bind,run_ite,getZ]
  have hs1 := (take [41]).step s
  cases hb : ((take [41]).run s).1 with
  | true =>
   simp only [Bool.not_true,Bool.false_eq_true,if_false,if_true]
   rw [fin _ hs1]; rfl
  | false =>
   have hn := take_no hb
   simp only [Bool.not_false,if_true,Bool.false_eq_true,if_false,hn]
   by_cases he : s.e = 0
   ·rw [if_pos he] at hf
    rw [if_pos (decide_eq_true he),if_pos he]
    have next : ∀ s2 : Z L,Step s s2 → (if andC none (room 8 (l.length + [(ex.run s2).1].length)) = true then Tryz.m137_2 k (l ++ [(ex.run s2).1]) L (I (ex.run s2).2.at_) (ex.run s2).2.N (ex.run s2).2.T (ex.run s2).2.top (ex.run s2).2.deep (ex.run s2).2.e (ex.run s2).2.wh else none) = some (enc ((argsL ex f (l ++ [(ex.run s2).1])).run (ex.run s2).2)) := fun s2 hs2 => by
     have hs3 := ex.step s2
     have ha2 := hs2.at_
     have ha3 := hs3.at_
     have hb3 := (ex.run s2).2.hat
     rw [if_pos (room8 (by omega))]
     refine r_argsL h H k hk f _ _ ((hd.step hs2).step hs3) ?_ (by simp only [List.length_append,List.length_singleton]; omega) (((hi.step hs2).step hs3).snoc (H.it s2))
     split
     ·rename_i he3; have := H.pg s2 (hd.step hs2) he3; omega
     ·omega
    by_cases hl0 : 0 < l.length
    ·rw [if_pos (by simpa [I] using hl0),if_pos hl0,r_must h]
     simp only [Option.bind_some,zt]
     rw [H.hx k _ hk (hd.step ((must _).step s))]
     exact next _ ((must _).step s)
    ·rw [if_neg (by simpa [I] using hl0),if_neg hl0,H.hx k _ hk hd]
     exact next _ (Step.refl s)
   ·rw [if_neg (by simpa using he),if_neg he,fin s (Step.refl s)]; rfl
theorem r_args (h : TokL L) (H : Hyp (L := L) ex cx ux n0 n) (k : Nat) (hk : n0 + 1 ≤ k) (s : Z L) (hd : Dp n s) : Tryz.m137 k L (I s.at_) s.N s.T s.top s.deep s.e s.wh = some (enc ((args ex).run s)) := by
 obtain ⟨k,rfl⟩ : ∃ k',k = k' + 1 := ⟨k - 1,by omega⟩
 have hlen := h.len
 rw [Tryz.m137_eq,r_argsL h H k (by omega) (L.length - s.at_ + 2) [] s hd (by split <;> omega) (by simp only [List.length_nil]; omega) (fun x hx => by cases hx)]
 rfl
theorem r_args' (h : TokL L) (H : Hyp (L := L) ex cx ux n0 n) (k : Nat) (hk : n0 + 1 ≤ k) (s : Z L) (hd : Dp n s) : Tryz.m137 k L (I s.at_) s.N s.T s.top s.deep s.e s.wh = some ((((args ex).run s).1,()),(zt ((args ex).run s).2,())) := r_args h H k hk s hd
theorem r_primary (h : TokL L) (H : Hyp (L := L) ex cx ux n0 n) (k : Nat) (hk : n0 + 2 ≤ k) (s : Z L) (hd : Dp n s) : Tryz.m136 k L (I s.at_) s.N s.T s.top s.deep s.e s.wh = some (enc ((primary ex).run s)) := by
 obtain ⟨k,rfl⟩ : ∃ k',k = k' + 1 := ⟨k - 1,by omega⟩
 have hlen := h.len
 have hx := H.hx
 have hat := s.hat
 rw [Tryz.m136_eq]
 simp only [r_now h,r_node,Option.bind_some,zt,primary,run_bind,run_ite,nowM,bumpM]
 by_cases h3 : (now s).kind = 3
 ·have hl := now_lt (s := s) (by rw [h3]; decide)
  rw [if_pos (decide_eq_true h3),if_pos h3,if_pos (inR_of (by simp only [I]; omega) (by simp only [I]; omega))]
  have hp := r_put h { node 1 (now s).at_ with n := (now s).n } (bump s)
  rw [bump_lt hl.2.1] at hp ⊢
  exact (ob hp).trans rfl
 ·rw [if_neg (by simpa using h3),if_neg h3]
  by_cases h1 : (now s).kind = 1
  ·have hl := now_lt (s := s) (by rw [h1]; decide)
   rw [if_pos (decide_eq_true h1),if_pos h1,if_pos (inR_of (by simp only [I]; omega) (by simp only [I]; omega))]
   have hb : I s.at_ + 1 = I (bump s).at_ := by rw [bump_lt hl.2.1]; simp [I]
   have e1 : bump s = { s with at_ := s.at_ + 1,hat := hl.2.1 } := bump_lt hl.2.1
   have e : ∀ (x : Str),Tryz.m61 x L (I s.at_ + 1) s.N s.T s.top s.deep s.e s.wh = some ((((take x).run (bump s)).1,()),(zt ((take x).run (bump s)).2,())) := fun x => by
    have := r_take h x (bump s)
    rw [← hb] at this
    rw [e1] at this ⊢
    exact this
   rw [e]
   have hd' : Dp n (bump s) := hd.step (bump_step s)
   simp only [Option.bind_some,zt,r_args' h H k (by omega : n0 + 1 ≤ k),dp_run,hd',r_put h,node]
   cases ((take [40]).run (bump s)).1 <;> rfl
  ·rw [if_neg (by simpa using h1),if_neg h1]
   simp only [r_take h,r_must h,r_put h,H.x k _ (by omega : n0 ≤ k),dp_run,hd,Option.bind_some,zt,node]
   repeat' split
   all_goals rfl
theorem take_text (h : TokL L) {x : Str} {s : Z L} (hb : ((take x).run s).1 = true) : inR (I ((take x).run s).2.at_ - 1) = true ∧ decide ((0 : Int) ≤ I ((take x).run s).2.at_ - 1 ∧ I ((take x).run s).2.at_ - 1 < I L.length) = true ∧ (L.getD (I ((take x).run s).2.at_ - 1).toNat d4).text = x := by
 have ha := take_at hb
 have hb : isZ x s = true := hb
 have hl := isZ_lt hb
 have hlen := h.len
 rw [ha.1]
 refine ⟨inR_of (by simp only [I]; omega) (by simp only [I]; omega),decide_eq_true (by simp only [I]; omega),?_⟩
 rw [show (I (s.at_ + 1) - 1).toNat = s.at_ by simp only [I]; omega]
 exact hl.2.2.2
theorem take_next {x : Str} {s s' : Z L} {f : Nat} (hb : ((take x).run s).1 = true) (hs : Step ((take x).run s).2 s') (hf : (if s.e = 0 then L.length - s.at_ + 1 else 0) < f + 1) : (if s'.e = 0 then L.length - s'.at_ + 1 else 0) < f := by
 have ha := take_at hb
 have hs := hs.at_
 have hh := s'.hat
 rw [if_pos ha.2.1] at hf
 split <;> omega
theorem r_behindL (h : TokL L) (H : Hyp (L := L) ex cx ux n0 n) (k : Nat) (hk : n0 ≤ k) : ∀ (f : Nat) (a : Int) (s : Z L),Dp n s → (if s.e = 0 then L.length - s.at_ + 1 else 0) < f → Tryz.m135_1 k a L (I s.at_) s.N s.T s.top s.deep s.e s.wh = some (enc ((behindL ex f a).run s))
 | 0,a,s,_,hf => by omega
 | f + 1,a,s,hd,hf => by
  rw [Tryz.m135_1_eq]
  simp only [behindL,run_get,run_now,run_ite]
  by_cases he : s.e = 0
  ·rw [if_pos (decide_eq_true he),if_pos he]
   simp only [r_now h,r_node,r_take h,r_must h,r_put h,r_kind h 1 (by decide),H.x k _ hk,dp_run,hd,Option.bind_some,zt,node,run_bind,run_ite]
   rcases Bool.eq_false_or_eq_true ((take [91]).run s).1 with hb1 | hb1
   ·
    simp only [hb1,if_true]
    exact r_behindL h H k hk f _ _ (by simp only [dp_run,hd]) (take_next hb1 (((ex.step _).trans ((must _).step _)).trans ((put _).step _)) hf)
   ·
    simp only [take_no hb1,hb1,Bool.false_eq_true,if_false]
    rcases Bool.eq_false_or_eq_true ((take [46]).run s).1 with hb2 | hb2
    ·
     obtain ⟨t1,t2,t3⟩ := take_text h hb2
     simp only [hb2,if_true,t1,t2,t3,decide_false,(by decide : ¬ ([46] : Str) = [45,62]),Bool.false_eq_true,if_false]
     exact r_behindL h H k hk f _ _ (by simp only [dp_run,hd]) (take_next hb2 (((kind _).step _).trans ((put _).step _)) hf)
    ·
     simp only [take_no hb2,hb2,Bool.false_eq_true,if_false]
     rcases Bool.eq_false_or_eq_true ((take [45,62]).run s).1 with hb3 | hb3
     ·
      obtain ⟨t1,t2,t3⟩ := take_text h hb3
      simp only [hb3,if_true,t1,t2,t3,decide_true]
      exact r_behindL h H k hk f _ _ (by simp only [dp_run,hd]) (take_next hb3 (((kind _).step _).trans ((put _).step _)) hf)
     ·
      simp only [take_no hb3,hb3,Bool.false_eq_true,if_false]
      rcases Bool.eq_false_or_eq_true ((take [43,43]).run s).1 with hb4 | hb4
      ·
       obtain ⟨t1,t2,t3⟩ := take_text h hb4
       simp only [hb4,if_true,t1,t2,t3]
       exact r_behindL h H k hk f _ _ (by simp only [dp_run,hd]) (take_next hb4 ((put _).step _) hf)
      ·
       simp only [take_no hb4,hb4,Bool.false_eq_true,if_false]
       rcases Bool.eq_false_or_eq_true ((take [45,45]).run s).1 with hb5 | hb5
       ·
        obtain ⟨t1,t2,t3⟩ := take_text h hb5
        simp only [hb5,if_true,t1,t2,t3]
        exact r_behindL h H k hk f _ _ (by simp only [dp_run,hd]) (take_next hb5 ((put _).step _) hf)
       ·
        simp only [take_no hb5,hb5,Bool.false_eq_true,if_false]
        rfl
  ·rw [if_neg (by simpa using he),if_neg he]
   rfl
theorem r_behind (h : TokL L) (H : Hyp (L := L) ex cx ux n0 n) (k : Nat) (hk : n0 + 1 ≤ k) (a : Int) (s : Z L) (hd : Dp n s) : Tryz.m135 k a L (I s.at_) s.N s.T s.top s.deep s.e s.wh = some ((((behind ex a).run s).1,()),(zt ((behind ex a).run s).2,())) := by
 obtain ⟨k,rfl⟩ : ∃ k',k = k' + 1 := ⟨k - 1,by omega⟩
 rw [Tryz.m135_eq,r_behindL h H k (by omega) (L.length - s.at_ + 2) a s hd (by split <;> omega)]
 rfl
theorem dropc {ops : List Str} {i : Nat} (hi : i < ops.length) : ops.drop i = ops.getD i [] :: ops.drop (i + 1) := by
 rw [List.getD_eq_getElem?_getD,List.getElem?_eq_getElem hi]; exact List.drop_eq_getElem_cons hi
theorem idx3 {ops : List Str} {i : Nat} (hi : i < ops.length) (hl : ops.length ≤ 100) : decide (I i < I ops.length) = true ∧ decide ((0 : Int) ≤ I i ∧ I i < I ops.length) = true ∧ decide ((I i).toNat < ops.length) = true ∧ inR (I (i + 1)) = true ∧ I i + 1 = I (i + 1) ∧ (I i).toNat = i := by
 simp only [I]
 exact ⟨decide_eq_true (by omega),decide_eq_true (by omega),decide_eq_true (by omega),inR_of (by omega) (by omega),by omega,by omega⟩
variable (ex cx ux) in
def unaryK (at_ : Int) : Option (Str × Int) → M L Int
 | some (x,_) => do
  let a ← ux
  put { node (if x.length = 2 then 12 else 3) at_ with text := x,a := a }
 | none => do
  if (← take [115,105,122,101,111,102]) = true then
   must [40]
   let b ← base
   let y ← array b
   must [41]
   put { node 11 at_ with type_ := y }
  else
   let s ← getZ
   if castZ s = true then
    must [40]
    let y ← base
    must [41]
    let a ← ux
    put { node 10 at_ with type_ := y,a := a }
   else
    let a ← primary ex
    behind ex a
theorem unary_run (s : Z L) : (unary ex ux).run s = (unaryK ex ux (now s).at_ ((takeAny unOps).run s).1).run ((takeAny unOps).run s).2 := by
 have e : unary ex ux = (nowM >>= fun t => takeAny unOps >>= fun r => unaryK ex ux t.at_ r) := by
  unfold unary
  refine congrArg _ (funext fun t => congrArg _ (funext fun r => ?_))
  rcases r with _ | ⟨x,y⟩ <;> rfl
 rw [e,run_now,run_bind]
theorem r_primary' (h : TokL L) (H : Hyp (L := L) ex cx ux n0 n) (k : Nat) (hk : n0 + 2 ≤ k) (s : Z L) (hd : Dp n s) : Tryz.m136 k L (I s.at_) s.N s.T s.top s.deep s.e s.wh = some ((((primary ex).run s).1,()),(zt ((primary ex).run s).2,())) := r_primary h H k hk s hd
theorem r_unaryK0 (h : TokL L) (H : Hyp (L := L) ex cx ux n0 n) (k : Nat) (hk : n0 + 2 ≤ k) (at_ : Int) (ops : List Str) (i : Nat) (hi : ops.length ≤ i) (s : Z L) (hd : Dp n s) : Tryz.m134_3 k at_ ops (I ops.length) (I i) L (I s.at_) s.N s.T s.top s.deep s.e s.wh = some (enc ((unaryK ex ux at_ none).run s)) := by
 have hlen := h.len
 have hat := s.hat
 rw [Tryz.m134_3_eq,if_neg (by simp only [I,decide_eq_true_eq]; omega)]
 simp only [unaryK,run_bind,run_ite,r_take h,Option.bind_some,zt]
 rcases Bool.eq_false_or_eq_true ((take [115,105,122,101,111,102]).run s).1 with hb | hb
 ·simp only [hb,if_true,r_node,r_must h,r_base h,r_array h,r_put h,Option.bind_some,zt,node]
  rfl
 ·simp only [hb,take_no hb,Bool.false_eq_true,if_false,r_is h,Option.bind_some,zt]
  have prim : (Tryz.m136 k L (I s.at_) s.N s.T s.top s.deep s.e s.wh).bind (fun y => (Tryz.m135 k y.fst.fst y.snd.fst.fst y.snd.fst.snd.fst y.snd.fst.snd.snd.fst y.snd.fst.snd.snd.snd.fst y.snd.fst.snd.snd.snd.snd.fst y.snd.fst.snd.snd.snd.snd.snd.fst y.snd.fst.snd.snd.snd.snd.snd.snd.fst y.snd.fst.snd.snd.snd.snd.snd.snd.snd.fst).bind fun z => some ((z.fst.fst,()),((z.snd.fst.fst,(z.snd.fst.snd.fst,(z.snd.fst.snd.snd.fst,(z.snd.fst.snd.snd.snd.fst,(z.snd.fst.snd.snd.snd.snd.fst,(z.snd.fst.snd.snd.snd.snd.snd.fst,(z.snd.fst.snd.snd.snd.snd.snd.snd.fst,(z.snd.fst.snd.snd.snd.snd.snd.snd.snd.fst,())))))))),()))) = some (enc ((primary ex >>= behind ex).run s)) := by
   simp only [r_primary' h H k hk,r_behind h H k (by omega : n0 + 1 ≤ k),dp_run,hd,Option.bind_some,zt,run_bind]
   rfl
  by_cases h1 : isZ [40] s = true
  ·rw [if_pos h1,if_pos (inR_of (by simp only [I]; omega) (by simp only [I]; omega))]
   by_cases h2 : s.at_ + 1 < L.length
   ·have e2 : decide (I s.at_ + 1 < I L.length) = true := decide_eq_true (by simp only [I]; omega)
    rw [if_pos e2,if_pos (inR_of (by simp only [I]; omega) (by simp only [I]; omega))]
    have hq : Tryz.m117q L (I s.at_ + 1) s.top s.deep s.e s.wh = some (((types.run (bump s)).1,()),((L,I s.at_ + 1,(),(),s.top,s.deep,s.e,s.wh,()),())) := by
     have := rq_types h (bump s)
     rw [bump_lt (by omega : s.at_ < L.length)] at this ⊢
     exact this
    rw [hq]
    simp only [Option.bind_some]
    by_cases h3 : (types.run (bump s)).1 = true
    ·have hc : castZ s = true := by simp [castZ,h1,h2,typesAt,h3]
     rw [if_pos h3]
     simp only [r_node,r_must h,r_base h,r_put h,H.u k _ (by omega : n0 ≤ k),dp_run,hd,Option.bind_some,zt,node,run_getZ,hc,if_true]
     rfl
    ·have hc : castZ s = false := by simp [castZ,h1,h2,typesAt]; simpa using h3
     rw [if_neg h3,prim]
     simp only [run_getZ,hc,Bool.false_eq_true,if_false]
     rfl
   ·have e2 : ¬ decide (I s.at_ + 1 < I L.length) = true := by simp only [I,decide_eq_true_eq]; omega
    rw [if_neg e2,prim]
    have hc : castZ s = false := by simp [castZ,h2]
    simp only [run_getZ,hc,Bool.false_eq_true,if_false]
    rfl
  ·rw [if_neg h1,prim]
   have hc : castZ s = false := by simp [castZ,h1]
   simp only [run_getZ,hc,Bool.false_eq_true,if_false]
   rfl
theorem r_unaryL (h : TokL L) (H : Hyp (L := L) ex cx ux n0 n) (k : Nat) (hk : n0 + 2 ≤ k) (at_ : Int) (ops : List Str) (hl : ops.length ≤ 100) (s : Z L) (hd : Dp n s) : ∀ (m i : Nat),ops.length ≤ i + m → Tryz.m134_3 k at_ ops (I ops.length) (I i) L (I s.at_) s.N s.T s.top s.deep s.e s.wh = some (enc ((unaryK ex ux at_ ((takeAny (ops.drop i)).run s).1).run ((takeAny (ops.drop i)).run s).2))
 | 0,i,hi => by
  rw [r_unaryK0 h H k hk at_ ops i (by omega) s hd,List.drop_eq_nil_of_le (by omega : ops.length ≤ i)]
  rfl
 | m + 1,i,hi => by
  by_cases hi2 : ops.length ≤ i
  ·rw [r_unaryK0 h H k hk at_ ops i hi2 s hd,List.drop_eq_nil_of_le hi2]
   rfl
  ·have hi3 : i < ops.length := by omega
   obtain ⟨i1,i2,i3,i4,i5,i6⟩ := idx3 hi3 hl
   rw [Tryz.m134_3_eq,if_pos i1,if_pos i2,if_pos i3,i6,dropc hi3]
   generalize ops.getD i [] = x
   simp only [r_take h,Option.bind_some,zt]
   rcases Bool.eq_false_or_eq_true ((take x).run s).1 with hb | hb
   ·simp only [takeAny_hit hb,hb,if_true,r_node,Option.bind_some,H.u k _ (by omega : n0 ≤ k),dp_run,hd,r_put h,zt,node,unaryK,run_bind,I]
    by_cases h2 : x.length = 2
    ·rw [if_pos (decide_eq_true (by omega))]
     simp only [h2,if_true]
     rfl
    ·rw [if_neg (by rw [decide_eq_true_eq]; omega)]
     simp only [h2,if_false]
     rfl
   ·simp only [takeAny_miss hb,hb,take_no hb,Bool.false_eq_true,if_false,i4,if_true,i5]
    exact r_unaryL h H k hk at_ ops hl s hd m (i + 1) (by omega)
theorem r_unary (h : TokL L) (H : Hyp (L := L) ex cx ux n0 n) (k : Nat) (hk : n0 + 3 ≤ k) (s : Z L) (hd : Dp n s) : Tryz.m134 k L (I s.at_) s.N s.T s.top s.deep s.e s.wh = some ((((unary ex ux).run s).1,()),(zt ((unary ex ux).run s).2,())) := by
 obtain ⟨k,rfl⟩ : ∃ k',k = k' + 1 := ⟨k - 1,by omega⟩
 rw [Tryz.m134_eq]
 simp only [r_now h,Option.bind_some,zt]
 rw [if_pos ok_un,f_un,List.map_id']
 have := r_unaryL h H k (by omega) (now s).at_ unOps (by decide) s hd unOps.length 0 (by omega)
 rw [unary_run]
 exact this
def binK (sub : M L Int) (ops : List Str) (f : Nat) (a : Int) : Option (Str × Int) → M L Int
 | some (x,at_) => do
  let b ← sub
  let a' ← put { node 4 at_ with text := x,a := a,b := b }
  binL sub ops f a'
 | none => pure a
theorem binL_run (sub : M L Int) (ops : List Str) (f : Nat) (a : Int) (s : Z L) : (binL sub ops (f + 1) a).run s = (binK sub ops f a ((takeAny ops).run s).1).run ((takeAny ops).run s).2 := by
 have e : binL sub ops (f + 1) a = (takeAny ops >>= fun r => binK sub ops f a r) := by
  show (takeAny ops >>= _) = _
  refine congrArg _ (funext fun r => ?_)
  rcases r with _ | ⟨x,y⟩ <;> rfl
 rw [e,run_bind]
theorem r_bin0 (k : Nat) (kk a : Int) (ops : List Str) (i : Nat) (hi : ops.length ≤ i) (s : Z L) : Tryz.m132_5 k kk a ops (I ops.length) (I i) L (I s.at_) s.N s.T s.top s.deep s.e s.wh = some (enc (a,s)) := by
 rw [Tryz.m132_5_eq,if_neg (by simp only [I,decide_eq_true_eq]; omega)]
 rfl
theorem r_binI (h : TokL L) (k : Nat) (kk a : Int) (sub : M L Int) (ops : List Str) (hl : ops.length ≤ 100) (f : Nat) (s : Z L) (hd : Dp n s) (hkk : inR (kk + 1) = true)
  (hsub : ∀ s,Dp n s → Tryz.m132 k (kk + 1) L (I s.at_) s.N s.T s.top s.deep s.e s.wh = some (((sub.run s).1,()),(zt (sub.run s).2,())))
  (hf : L.length - s.at_ < f + 1)
  (next : ∀ a (s : Z L),Dp n s → L.length - s.at_ < f → Tryz.m132_4 k kk a L (I s.at_) s.N s.T s.top s.deep s.e s.wh = some (enc ((binL sub ops f a).run s))) : ∀ (m i : Nat),ops.length ≤ i + m → Tryz.m132_5 k kk a ops (I ops.length) (I i) L (I s.at_) s.N s.T s.top s.deep s.e s.wh = some (enc ((binK sub ops f a ((takeAny (ops.drop i)).run s).1).run ((takeAny (ops.drop i)).run s).2))
 | 0,i,hi => by
  rw [r_bin0 k kk a ops i (by omega) s,List.drop_eq_nil_of_le (by omega : ops.length ≤ i)]
  rfl
 | m + 1,i,hi => by
  by_cases hi2 : ops.length ≤ i
  ·rw [r_bin0 k kk a ops i (by omega) s,List.drop_eq_nil_of_le (by omega : ops.length ≤ i)]
   rfl
  ·have hi3 : i < ops.length := by omega
   obtain ⟨i1,i2,i3,i4,i5,i6⟩ := idx3 hi3 hl
   rw [Tryz.m132_5_eq,if_pos i1,if_pos i2,if_pos i3,i6,dropc hi3]
   generalize ops.getD i [] = x
   simp only [r_now h,r_take h,Option.bind_some,zt]
   rcases Bool.eq_false_or_eq_true ((take x).run s).1 with hb | hb
   ·simp only [takeAny_hit hb,hb,if_true,r_node,Option.bind_some,hkk,hsub,dp_run,hd,r_put h,zt,node,binK,run_bind]
    have ha := take_at hb
    have hs := ((sub.step ((take x).run s).2).trans ((put (⟨4,a,(sub.run ((take x).run s).2).1,-1,-1,x,0,0,(now s).at_⟩ : Nde)).step _)).at_
    exact next _ _ (by simp only [dp_run,hd]) (by omega)
   ·simp only [takeAny_miss hb,hb,take_no hb,Bool.false_eq_true,if_false,i4,if_true,i5]
    exact r_binI h k kk a sub ops hl f s hd hkk hsub hf next m (i + 1) (by omega)
theorem weak_small (j : Nat) (hj : j < 10) : (weak.getD j []).length ≤ 100 := by
 rcases j with _ | _ | _ | _ | _ | _ | _ | _ | _ | _ | j
 all_goals first | decide | omega
theorem r_binL (h : TokL L) (k : Nat) (j : Nat) (hj : j < 10) (sub : M L Int)
  (hsub : ∀ s,Dp n s → Tryz.m132 k (I j + 1) L (I s.at_) s.N s.T s.top s.deep s.e s.wh = some (((sub.run s).1,()),(zt (sub.run s).2,()))) : ∀ (f : Nat) (a : Int) (s : Z L),Dp n s → L.length - s.at_ < f → Tryz.m132_4 k (I j) a L (I s.at_) s.N s.T s.top s.deep s.e s.wh = some (enc ((binL sub (weak.getD j []) f a).run s))
 | 0,a,s,_,hf => by omega
 | f + 1,a,s,hd,hf => by
  have e1 : decide ((0 : Int) ≤ I j ∧ I j < I weak0.length) = true := decide_eq_true (by simp only [I]; exact ⟨by omega,Int.ofNat_lt.2 hj⟩)
  have e2 : decide ((I j).toNat < weak0.length) = true := decide_eq_true hj
  rw [Tryz.m132_4_eq,r_weak]
  simp only [Option.bind_some]
  rw [if_pos e1,if_pos e2,show (I j).toNat = j from rfl,if_pos (ok_weak j hj),f_weak j hj,List.map_id',binL_run]
  exact r_binI h k (I j) a sub (weak.getD j []) (weak_small j hj) f s hd (inR_of (by simp only [I]; omega) (by simp only [I]; omega)) hsub hf (fun a s => r_binL h k j hj sub hsub f a s) (weak.getD j []).length 0 (by omega)
theorem r_binary (h : TokL L) (H : Hyp (L := L) ex cx ux n0 n) : ∀ (j : Nat),j ≤ 10 → ∀ (k : Nat),n0 + 4 + j ≤ k → ∀ (s : Z L),Dp n s → Tryz.m132 k (I (10 - j)) L (I s.at_) s.N s.T s.top s.deep s.e s.wh = some ((((binary ex ux j).run s).1,()),(zt ((binary ex ux j).run s).2,()))
 | 0,_,k,hk,s,hd => by
  obtain ⟨k,rfl⟩ : ∃ k',k = k' + 1 := ⟨k - 1,by omega⟩
  rw [Tryz.m132_eq,r_weak]
  simp only [Option.bind_some]
  rw [if_pos (by kernel_rfl),r_unary h H k (by omega) s hd]
  rfl
 | j + 1,hj,k,hk,s,hd => by
  obtain ⟨k,rfl⟩ : ∃ k',k = k' + 1 := ⟨k - 1,by omega⟩
  have sub : ∀ s,Dp n s → Tryz.m132 k (I (10 - (j + 1)) + 1) L (I s.at_) s.N s.T s.top s.deep s.e s.wh = some ((((binary ex ux j).run s).1,()),(zt ((binary ex ux j).run s).2,())) := fun s hd => by
   have := r_binary h H j (by omega) k (by omega) s hd
   rwa [show I (10 - j) = I (10 - (j + 1)) + 1 by simp only [I]; omega] at this
  have e1 : ¬ decide (I (10 - (j + 1)) = I weak0.length) = true := by rw [decide_eq_true_eq]; show ¬ I (10 - (j + 1)) = 10; simp only [I]; omega
  rw [Tryz.m132_eq,r_weak]
  simp only [Option.bind_some]
  rw [if_neg e1,if_pos (inR_of (by simp only [I]; omega) (by simp only [I]; omega)),sub s hd]
  have e2 : 10 - (j + 1) = 9 - j := by omega
  rw [e2] at sub ⊢
  simp only [Option.bind_some,zt]
  have hd2 : Dp n ((binary ex ux j).run s).2 := (dp_run _ _).2 hd
  rw [r_binL h k (9 - j) (by omega) (binary ex ux j) sub (L.length - ((binary ex ux j).run s).2.at_ + 1) _ _ hd2 (by omega)]
  rfl
theorem r_cond (h : TokL L) (H : Hyp (L := L) ex cx ux n0 n) (k : Nat) (hk : n0 + 15 ≤ k) (s : Z L) (hd : Dp n s) : Tryz.m131 k L (I s.at_) s.N s.T s.top s.deep s.e s.wh = some ((((cond ex cx ux).run s).1,()),(zt ((cond ex cx ux).run s).2,())) := by
 obtain ⟨k,rfl⟩ : ∃ k',k = k' + 1 := ⟨k - 1,by omega⟩
 have hb := r_binary h H 10 (Nat.le_refl _) k (by omega)
 rw [Tryz.m131_eq]
 rw [show (0 : Int) = I (10 - 10) from rfl]
 simp only [hb,hd,r_now h,r_node,r_take h,r_must h,r_put h,H.x k _ (by omega : n0 ≤ k),H.c k _ (by omega : n0 ≤ k),dp_run,Option.bind_some,zt,cond,node]
 rw [run_bind,run_now]
 simp only [run_bind,run_ite]
 generalize (binary ex ux 10).run s = r
 rcases Bool.eq_false_or_eq_true ((take [63]).run r.2).1 with hb | hb
 ·simp only [hb,Bool.not_true,Bool.false_eq_true,if_false,if_true]
 ·simp only [hb,Bool.not_false,if_true,Bool.false_eq_true,if_false,run_pure]
def asK (ex : M L Int) (a : Int) : Option (Str × Int) → M L Int
 | some (x,at_) => do
  let b ← ex
  put { node 5 at_ with text := x,a := a,b := b }
 | none => pure a
theorem assign_run (s : Z L) : (assign ex cx ux).run s = (asK ex ((cond ex cx ux).run s).1 ((takeAny asOps).run ((cond ex cx ux).run s).2).1).run ((takeAny asOps).run ((cond ex cx ux).run s).2).2 := by
 have e : assign ex cx ux = (cond ex cx ux >>= fun a => takeAny asOps >>= fun r => asK ex a r) := by
  show (cond ex cx ux >>= _) = _
  refine congrArg _ (funext fun a => congrArg _ (funext fun r => ?_))
  rcases r with _ | ⟨x,y⟩ <;> rfl
 rw [e,run_bind,run_bind]
theorem r_as0 (k : Nat) (a : Int) (ops : List Str) (i : Nat) (hi : ops.length ≤ i) (s : Z L) : Tryz.m125_3 k a ops (I ops.length) (I i) L (I s.at_) s.N s.T s.top s.deep s.e s.wh = some (enc (a,s)) := by
 rw [Tryz.m125_3_eq,if_neg (by simp only [I,decide_eq_true_eq]; omega)]
 rfl
theorem r_asI (h : TokL L) (H : Hyp (L := L) ex cx ux n0 n) (k : Nat) (hk : n0 ≤ k) (a : Int) (ops : List Str) (hl : ops.length ≤ 100) (s : Z L) (hd : Dp n s) : ∀ (m i : Nat),ops.length ≤ i + m → Tryz.m125_3 k a ops (I ops.length) (I i) L (I s.at_) s.N s.T s.top s.deep s.e s.wh = some (enc ((asK ex a ((takeAny (ops.drop i)).run s).1).run ((takeAny (ops.drop i)).run s).2))
 | 0,i,hi => by
  rw [r_as0 k a ops i (by omega) s,List.drop_eq_nil_of_le (by omega : ops.length ≤ i)]
  rfl
 | m + 1,i,hi => by
  by_cases hi2 : ops.length ≤ i
  ·rw [r_as0 k a ops i (by omega) s,List.drop_eq_nil_of_le (by omega : ops.length ≤ i)]
   rfl
  ·have hi3 : i < ops.length := by omega
   obtain ⟨i1,i2,i3,i4,i5,i6⟩ := idx3 hi3 hl
   rw [Tryz.m125_3_eq,if_pos i1,if_pos i2,if_pos i3,i6,dropc hi3]
   generalize ops.getD i [] = x
   simp only [r_now h,r_take h,Option.bind_some,zt]
   rcases Bool.eq_false_or_eq_true ((take x).run s).1 with hb | hb
   ·simp only [takeAny_hit hb,hb,if_true,r_node,Option.bind_some,H.x k _ hk,dp_run,hd,r_put h,zt,node,asK,run_bind]
    rfl
   ·simp only [takeAny_miss hb,hb,take_no hb,Bool.false_eq_true,if_false,i4,if_true,i5]
    exact r_asI h H k hk a ops hl s hd m (i + 1) (by omega)
theorem r_assign (h : TokL L) (H : Hyp (L := L) ex cx ux n0 n) (k : Nat) (hk : n0 + 16 ≤ k) (s : Z L) (hd : Dp n s) : Tryz.m125 k L (I s.at_) s.N s.T s.top s.deep s.e s.wh = some (enc ((assign ex cx ux).run s)) := by
 obtain ⟨k,rfl⟩ : ∃ k',k = k' + 1 := ⟨k - 1,by omega⟩
 rw [Tryz.m125_eq,r_cond h H k (by omega) s hd]
 simp only [Option.bind_some,zt]
 rw [if_pos ok_as,f_as,List.map_id',assign_run]
 exact r_asI h H k (by omega) _ asOps (by decide) _ ((dp_run _ _).2 hd) asOps.length 0 (by omega)
end
end
end Go.Proofs.TR
