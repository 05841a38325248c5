/-
 The parser's models are the plain parser: what stands at the top, and all.
-/
import Derived.Test.YtkpokomghbhadaaGreatDoorTrDE
set_option maxRecDepth 100000
set_option maxHeartbeats 2000000
namespace Go.Proofs.TR
open Go Go.En Go.En.Dop
section
variable {L : List Tok} {n : Nat}
theorem next_m {α : Type} {f : M L α} {s s' : Z L} {k : Nat} (hf : Pg f) (hs : Step (f.run s).2 s') (hk : (if s.e = 0 then L.length - s.at_ + 1 else 0) < k + 1) (he : s.e = 0) : (if s'.e = 0 then L.length - s'.at_ + 1 else 0) < k := by
 rw [if_pos he] at hk
 split
 ·rename_i h
  have h1 : (f.run s).2.e = 0 := by
   apply Classical.byContradiction
   intro hn
   exact hn ((hs.err hn).symm.trans h)
  have := hf s h1
  have := hs.at_
  have := s'.hat
  omega
 ·have := s.hat; omega
theorem fu4 (hn : n ≤ 1000) : 4 * n + 2 + 1 ≤ FU := by
 have h1 : 4 * 1000 + 2 + 1 ≤ FU := by decide
 exact Nat.le_trans (by omega) h1
theorem r_paramsL (h : TokL L) (hn : n ≤ 1000) (H : HypT L n) (b : Nde) : ∀ (f : Nat) (l : List Int) (s : Z L),Dp n s → (if s.e = 0 then L.length - s.at_ + 1 else 0) < f → l.length + f ≤ 2000000 → Items s l → Tryz.m33_21 l L (I s.at_) s.N s.T s.top s.deep s.e s.wh b = some (enc ((paramsL f l >>= fun l => list l >>= fun a => block (stmt n) >>= fun c => put { b with a := a,b := c }).run s))
 | 0,l,s,_,hf,_,_ => by omega
 | f + 1,l,s,hd,hf,hl,hi => by
  have fin : ∀ s' : Z L,Step s s' → (Tryz.m34.R (((),l,()),((L,I s'.at_,s'.N,s'.T,s'.top,s'.deep,s'.e,s'.wh,()),()))) = some (enc ((list l).run s')) := fun s' hs => r_list h l s' (by omega) (hi.step hs)
  have hB := r_block h H FU (fu4 hn)
  rw [Tryz.m33_21_eq]
  simp only [r_take h,Option.bind_some,zt,paramsL,run_bind,run_ite,getZ]
  have hs1 := (take [41]).step s
  rcases Bool.eq_false_or_eq_true ((take [41]).run s).1 with hb | hb
  ·simp only [hb,Bool.not_true,Bool.false_eq_true,if_false,if_true]
   refine (ob (fin _ hs1)).trans ?_
   have hd1 : Dp n ((list l).run ((take [41]).run s).2).2 := (dp_run _ _).2 (hd.step hs1)
   refine (ob (hB _ hd1)).trans ?_
   exact (ob (r_put h _ _)).trans rfl
  ·simp only [hb,Bool.not_false,if_true,Bool.false_eq_true,if_false,take_no hb]
   by_cases he : s.e = 0
   ·rw [if_pos (decide_eq_true he),if_pos he]
    by_cases hl0 : 0 < l.length
    ·rw [if_pos (by simpa [I] using hl0),if_pos hl0]
     simp only [r_must h,r_param h,r_put h,Option.bind_some,zt]
     rw [if_pos (room8 (by omega))]
     have hs2 := ((must [44]).step s).trans ((param.step _).trans ((put (param.run ((must [44]).run s).2).1).step _))
     refine r_paramsL h hn H b f _ _ (hd.step hs2) (next_m (f := must [44]) Pg.must ((param.step _).trans ((put _).step _)) hf he) (by simp only [List.length_append,List.length_singleton]; omega) ((hi.step hs2).snoc (It.put _))
    ·rw [if_neg (by simpa [I] using hl0),if_neg hl0]
     simp only [r_must h,r_param h,r_put h,Option.bind_some,zt]
     rw [if_pos (room8 (by omega))]
     have hs2 := (param.step s).trans ((put (param.run s).1).step _)
     refine r_paramsL h hn H b f _ _ (hd.step hs2) (next_m (f := param) pg_param ((put _).step _) hf he) (by simp only [List.length_append,List.length_singleton]; omega) ((hi.step hs2).snoc (It.put _))
   ·rw [if_neg (by simpa using he),if_neg he]
    refine (ob (fin s (Step.refl s))).trans ?_
    have hd1 : Dp n ((list l).run s).2 := (dp_run _ _).2 hd
    refine (ob (hB _ hd1)).trans ?_
    exact (ob (r_put h _ _)).trans rfl
theorem r_21 (h : TokL L) (hn : n ≤ 1000) (H : HypT L n) (b : Nde) (s : Z L) (hd : Dp n s) : Tryz.m33_21 [] L (I s.at_) s.N s.T s.top s.deep s.e s.wh b = some (enc ((left >>= fun f => paramsL (f + 2) [] >>= fun l => list l >>= fun a => block (stmt n) >>= fun c => put { b with a := a,b := c }).run s)) := by
 have hlen := h.len
 rw [r_paramsL h hn H b (L.length - s.at_ + 2) [] s hd (by split <;> omega) (by simp only [List.length_nil]; omega) (fun x hx => by cases hx)]
 rfl
theorem r_field (h : TokL L) (s : Z L) : field.run s = (put { (param.run s).1 with type_ := ((array (param.run s).1.type_).run (param.run s).2).1 }).run ((must [59]).run ((array (param.run s).1.type_).run (param.run s).2).2).2 := by
 unfold field
 rw [run_bind,run_bind,run_bind]
theorem pg_field : Pg (L := L) field := Pg.l pg_param
theorem it_field : It (L := L) field := It.r fun _ => It.r fun _ => It.r fun _ => It.put
def fK (b : Nde) : Option (List Int) → M L Int
 | none => pure (-1)
 | some l => must [59] >>= fun _ => list l >>= fun a => put { b with a := a }
theorem fieldsL_s (f : Nat) (l : List Int) : (fieldsL (f + 1) l : M L _) = (if l.length = 0 then field >>= fun x => getZ >>= fun s => if s.e = 0 then fieldsL f (l ++ [x]) else pure none else take [125] >>= fun b => if b = true then pure (some l) else getZ >>= fun s => if s.e = 0 then field >>= fun x => getZ >>= fun s => if s.e = 0 then fieldsL f (l ++ [x]) else pure none else pure (some l)) := id rfl
theorem r_fieldsL (h : TokL L) (b : Nde) : ∀ (f : Nat) (l : List Int) (s : Z L),(if s.e = 0 then L.length - s.at_ + 1 else 0) < f → l.length + f ≤ 2000000 → Items s l → Tryz.m33_7 l L (I s.at_) s.N s.T s.top s.deep s.e s.wh b = some (enc ((fieldsL f l >>= fK b).run s))
 | 0,l,s,hf,_,_ => by omega
 | f + 1,l,s,hf,hl,hi => by
  have fin : ∀ s' : Z L,Step s s' → (Tryz.m34.R (((),l,()),((L,I s'.at_,s'.N,s'.T,s'.top,s'.deep,s'.e,s'.wh,()),()))) = some (enc ((list l).run s')) := fun s' hs => r_list h l s' (by omega) (hi.step hs)
  have go : (field.run s).2.e = 0 → Tryz.m33_7 (l ++ [(field.run s).1]) L (I (field.run s).2.at_) (field.run s).2.N (field.run s).2.T (field.run s).2.top (field.run s).2.deep (field.run s).2.e (field.run s).2.wh b = some (enc ((fieldsL f (l ++ [(field.run s).1]) >>= fK b).run (field.run s).2)) := fun he => by
   have he0 := ok_back he
   refine r_fieldsL h b f _ _ (next_m (f := field) pg_field (Step.refl _) hf he0) (by simp only [List.length_append,List.length_singleton]; omega) ((hi.step (field.step s)).snoc (it_field s))
  rw [Tryz.m33_7_eq]
  by_cases hl0 : l.length = 0
  ·rw [if_pos (by simpa [I] using hl0)]
   have e : (fieldsL (f + 1) l >>= fK b).run s = if (field.run s).2.e = 0 then (fieldsL f (l ++ [(field.run s).1]) >>= fK b).run (field.run s).2 else (-1,(field.run s).2) := by
    rw [run_bind]
    rw [fieldsL_s,if_pos hl0]
    rw [run_bind,run_get,run_ite]
    split
    ·rw [run_bind]
    ·rfl
   rw [e]
   simp only [r_must h,r_param h,r_array h,r_put h,Option.bind_some,zt]
   rw [if_pos (room8 (by omega))]
   rw [← r_field h s]
   by_cases he : (field.run s).2.e = 0
   ·rw [if_neg (by simp only [he]; decide),if_pos he]
    exact go he
   ·rw [if_pos (by simp only [he]; decide),if_neg he]
    rfl
  ·rw [if_neg (by simpa [I] using hl0)]
   simp only [r_take h,Option.bind_some,zt]
   rcases Bool.eq_false_or_eq_true ((take [125]).run s).1 with hb | hb
   ·have e : (fieldsL (f + 1) l >>= fK b).run s = (fK b (some l)).run ((take [125]).run s).2 := by
     rw [run_bind]
     rw [fieldsL_s,if_neg hl0]
     rw [run_bind,hb,if_pos rfl,run_pure]
    rw [e]
    simp only [hb,Bool.not_true,Bool.false_eq_true,if_false,r_must h,Option.bind_some,zt]
    refine (ob (fin _ (((take _).step s).trans ((must _).step _)))).trans ?_
    exact (ob (r_put h _ _)).trans rfl
   ·simp only [hb,Bool.not_false,if_true,take_no hb]
    by_cases he0 : s.e = 0
    ·have e : (fieldsL (f + 1) l >>= fK b).run s = if (field.run s).2.e = 0 then (fieldsL f (l ++ [(field.run s).1]) >>= fK b).run (field.run s).2 else (-1,(field.run s).2) := by
      rw [run_bind]
      rw [fieldsL_s,if_neg hl0]
      rw [run_bind,hb,if_neg (by decide),take_no hb,run_get,if_pos he0,run_bind,run_get,run_ite]
      split
      ·rw [run_bind]
      ·rfl
     rw [e,if_pos (decide_eq_true he0)]
     simp only [r_must h,r_param h,r_array h,r_put h,Option.bind_some,zt]
     rw [if_pos (room8 (by omega))]
     rw [← r_field h s]
     by_cases he : (field.run s).2.e = 0
     ·rw [if_neg (by simp only [he]; decide),if_pos he]
      exact go he
     ·rw [if_pos (by simp only [he]; decide),if_neg he]
      rfl
    ·have e : (fieldsL (f + 1) l >>= fK b).run s = (fK b (some l)).run s := by
      rw [run_bind]
      rw [fieldsL_s,if_neg hl0]
      rw [run_bind,hb,if_neg (by decide),take_no hb,run_get,if_neg he0,run_pure]
     rw [e,if_neg (by simpa using he0)]
     simp only [r_must h,Option.bind_some,zt]
     refine (ob (fin _ ((must _).step s))).trans ?_
     exact (ob (r_put h _ _)).trans rfl
theorem r_7 (h : TokL L) (b : Nde) (s : Z L) : Tryz.m33_7 [] L (I s.at_) s.N s.T s.top s.deep s.e s.wh b = some (enc ((left >>= fun f => fieldsL (f + 2) [] >>= fK b).run s)) := by
 have hlen := h.len
 rw [r_fieldsL h b (L.length - s.at_ + 2) [] s (by split <;> omega) (by simp only [List.length_nil]; omega) (fun x hx => by cases hx)]
 rfl
def topS (t : Tok) : M L Int := must [115,116,114,117,99,116] >>= fun _ => kind 1 >>= fun x => must [123] >>= fun _ => left >>= fun f => fieldsL (f + 2) [] >>= fK { node 53 t.at_ with text := x.text }
def topN (n : Nat) (t : Tok) : M L Int := do
 let x ← param
 if (← take [40]) = true then
  let f ← left
  let l ← paramsL (f + 2) []
  let a ← list l
  let b ← block (stmt n)
  put { node 50 t.at_ with text := x.text,type_ := x.type_,a := a,b := b }
 else
  let y ← array x.type_
  if (← take [61]) = true then
   if (← take [45]) = true then
    let v ← kind 3
    must [59]
    put { node 52 t.at_ with text := x.text,type_ := y,n := -1 * v.n }
   else
    let v ← kind 3
    must [59]
    put { node 52 t.at_ with text := x.text,type_ := y,n := 1 * v.n }
  else
   must [59]
   put { node 52 t.at_ with text := x.text,type_ := y }
theorem top_run (s : Z L) : (top n).run s = if structZ s = true then (topS (now s)).run s else (topN n (now s)).run s := by
 have e : (top n : M L Int) = (nowM >>= fun t => getZ >>= fun s => if structZ s = true then topS t else topN n t) := by
  unfold top
  refine congrArg _ (funext fun t => congrArg _ (funext fun s => ?_))
  split
  ·refine congrArg _ (funext fun _ => congrArg _ (funext fun x => congrArg _ (funext fun _ => congrArg _ (funext fun f => congrArg _ (funext fun r => ?_)))))
   rcases r with _ | l <;> rfl
  ·rfl
 rw [e,run_now,run_get,run_ite]
theorem r_top (h : TokL L) (hn : n ≤ 1000) (H : HypT L n) (s : Z L) (hd : Dp n s) : Tryz.m33 L (I s.at_) s.N s.T s.top s.deep s.e s.wh = some ((((top n).run s).1,()),(zt ((top n).run s).2,())) := by
 show _ = some (enc ((top n).run s))
 have hlen := h.len
 have hat := s.hat
 rw [Tryz.m33_eq]
 refine (ob (r_now h s)).trans ?_
 refine (ob (r_node 53 _)).trans ?_
 refine (ob (r_is h [115,116,114,117,99,116] s)).trans ?_
 rw [top_run]
 unfold topN topS
 generalize (now s).at_ = at_
 rcases Bool.eq_false_or_eq_true (isZ [115,116,114,117,99,116] s) with hb | hb
 ·rw [if_pos hb]
  have i2 : inR (I s.at_ + 2) = true := inR_of (by simp only [I]; omega) (by simp only [I]; omega)
  refine (if_pos i2).trans ?_
  by_cases h2 : s.at_ + 2 < L.length
  ·have e2 : decide (I s.at_ + 2 < I L.length) = true := decide_eq_true (by simp only [I]; omega)
   have e3 : decide ((0 : Int) ≤ I s.at_ + 2 ∧ I s.at_ + 2 < I L.length) = true := decide_eq_true (by simp only [I]; omega)
   have e4 : (I s.at_ + 2).toNat = s.at_ + 2 := by simp only [I]; omega
   refine (if_pos e2).trans ?_
   refine (if_pos i2).trans ?_
   refine (if_pos e3).trans ?_
   by_cases h3 : (L.getD (s.at_ + 2) d4).text = [123]
   ·have hc : structZ s = true := by unfold structZ; rw [hb,decide_eq_true h2,decide_eq_true h3]; rfl
    rw [if_pos hc]
    refine (if_pos (decide_eq_true (show (L.getD (I s.at_ + 2).toNat d4).text = [123] by rw [e4]; exact h3))).trans ?_
    refine (ob (r_must h _ s)).trans ?_
    rw [run_bind]
    refine (ob (r_kind h 1 (by decide) _)).trans ?_
    rw [run_bind]
    refine (ob (r_must h _ _)).trans ?_
    rw [run_bind]
    exact r_7 h _ _
   ·have hc : structZ s = false := by unfold structZ; rw [decide_eq_false h3,Bool.and_false]
    refine (if_neg (fun hh => h3 (e4 ▸ (of_decide_eq_true hh : (L.getD (I s.at_ + 2).toNat d4).text = [123])))).trans ?_
    rw [if_neg (by rw [hc]; decide)]
    refine (ob (r_param h s)).trans ?_
    rw [run_bind]
    have hd1 : Dp n (param.run s).2 := (dp_run _ _).2 hd
    generalize param.run s = r1 at hd1 ⊢
    refine alt (g := enc) h (fun s1 hs => r_21 h hn H _ s1 (hd1.step hs)) ?_
    refine (ob (r_array h _ r1.2)).trans ?_
    rw [run_bind]
    generalize (array r1.1.type_).run r1.2 = r2
    refine alt (g := enc) h (fun s2 hs => ?_) ?_
    ·refine alt (g := enc) h (fun s3 hs => ?_) ?_
     ·have hk := kind_num h s3
      refine (ob (r_kind h 3 (by decide) s3)).trans ?_
      refine (if_pos (inR_of (by show _ ≤ -1 * ((kind 3).run s3).1.n; omega) (by show -1 * ((kind 3).run s3).1.n ≤ _; omega))).trans ?_
      simp only [zt,r_must h,r_put h,Option.bind_some,run_bind,enc,node]
     ·have hk := kind_num h s2
      refine (ob (r_kind h 3 (by decide) s2)).trans ?_
      refine (if_pos (inR_of (by show _ ≤ 1 * ((kind 3).run s2).1.n; omega) (by show 1 * ((kind 3).run s2).1.n ≤ _; omega))).trans ?_
      simp only [zt,r_must h,r_put h,Option.bind_some,run_bind,enc,node]
    ·simp only [zt,r_must h,r_put h,Option.bind_some,run_bind,enc,node]
  ·have hc : structZ s = false := by unfold structZ; rw [decide_eq_false h2,Bool.and_false,Bool.false_and]
   refine (if_neg (fun hh => by have hh : I s.at_ + 2 < I L.length := of_decide_eq_true hh; simp only [I] at hh; omega)).trans ?_
   rw [if_neg (by rw [hc]; decide)]
   refine (ob (r_param h s)).trans ?_
   rw [run_bind]
   have hd1 : Dp n (param.run s).2 := (dp_run _ _).2 hd
   generalize param.run s = r1 at hd1 ⊢
   refine alt (g := enc) h (fun s1 hs => r_21 h hn H _ s1 (hd1.step hs)) ?_
   refine (ob (r_array h _ r1.2)).trans ?_
   rw [run_bind]
   generalize (array r1.1.type_).run r1.2 = r2
   refine alt (g := enc) h (fun s2 hs => ?_) ?_
   ·refine alt (g := enc) h (fun s3 hs => ?_) ?_
    ·have hk := kind_num h s3
     refine (ob (r_kind h 3 (by decide) s3)).trans ?_
     refine (if_pos (inR_of (by show _ ≤ -1 * ((kind 3).run s3).1.n; omega) (by show -1 * ((kind 3).run s3).1.n ≤ _; omega))).trans ?_
     simp only [zt,r_must h,r_put h,Option.bind_some,run_bind,enc,node]
    ·have hk := kind_num h s2
     refine (ob (r_kind h 3 (by decide) s2)).trans ?_
     refine (if_pos (inR_of (by show _ ≤ 1 * ((kind 3).run s2).1.n; omega) (by show 1 * ((kind 3).run s2).1.n ≤ _; omega))).trans ?_
     simp only [zt,r_must h,r_put h,Option.bind_some,run_bind,enc,node]
   ·simp only [zt,r_must h,r_put h,Option.bind_some,run_bind,enc,node]
 ·have hc : structZ s = false := by unfold structZ; rw [hb,Bool.false_and,Bool.false_and]
  refine (if_neg (fun hh => by have hh : isZ [115,116,114,117,99,116] s = true := hh; rw [hb] at hh; exact Bool.false_ne_true hh)).trans ?_
  rw [if_neg (by rw [hc]; decide)]
  refine (ob (r_param h s)).trans ?_
  rw [run_bind]
  have hd1 : Dp n (param.run s).2 := (dp_run _ _).2 hd
  generalize param.run s = r1 at hd1 ⊢
  refine alt (g := enc) h (fun s1 hs => r_21 h hn H _ s1 (hd1.step hs)) ?_
  refine (ob (r_array h _ r1.2)).trans ?_
  rw [run_bind]
  generalize (array r1.1.type_).run r1.2 = r2
  refine alt (g := enc) h (fun s2 hs => ?_) ?_
  ·refine alt (g := enc) h (fun s3 hs => ?_) ?_
   ·have hk := kind_num h s3
    refine (ob (r_kind h 3 (by decide) s3)).trans ?_
    refine (if_pos (inR_of (by show _ ≤ -1 * ((kind 3).run s3).1.n; omega) (by show -1 * ((kind 3).run s3).1.n ≤ _; omega))).trans ?_
    simp only [zt,r_must h,r_put h,Option.bind_some,run_bind,enc,node]
   ·have hk := kind_num h s2
    refine (ob (r_kind h 3 (by decide) s2)).trans ?_
    refine (if_pos (inR_of (by show _ ≤ 1 * ((kind 3).run s2).1.n; omega) (by show 1 * ((kind 3).run s2).1.n ≤ _; omega))).trans ?_
    simp only [zt,r_must h,r_put h,Option.bind_some,run_bind,enc,node]
  ·simp only [zt,r_must h,r_put h,Option.bind_some,run_bind,enc,node]
theorem pg_top : Pg (L := L) (top n) := fun s he => by
 rw [top_run] at he ⊢
 split at he
 ·rw [if_pos (by assumption)]
  exact (show Pg (topS (now s)) from Pg.l Pg.must) s he
 ·rw [if_neg (by assumption)]
  exact (show Pg (topN n (now s)) from Pg.l pg_param) s he
theorem it_top : It (L := L) (top n) := fun s => by
 rw [top_run]
 split
 ·refine (show It (topS (now s)) from It.r fun _ => It.r fun _ => It.r fun _ => It.r fun _ => It.r fun r => ?_) s
  rcases r with _ | l
  ·exact It.neg
  ·exact It.r fun _ => It.r fun _ => It.put
 ·refine (show It (topN n (now s)) from It.r fun x => It.r fun _ => It.ite ?_ ?_) s
  ·exact It.r fun _ => It.r fun _ => It.r fun _ => It.r fun _ => It.put
  ·exact It.r fun _ => It.r fun _ => It.ite (It.r fun _ => It.ite (It.r fun _ => It.r fun _ => It.put) (It.r fun _ => It.r fun _ => It.put)) (It.r fun _ => It.put)
def fin' (r : Int × Z L) : Tre × Int × Int := if r.2.e = 0 then (⟨r.2.N,r.2.T,r.1⟩,0,0) else (⟨[],[],0⟩,r.2.wh,r.2.e)
def enc3 (r : Tre × Int × Int) : (Tre × Int × Int × Unit) × Unit := ((r.1,(r.2.1,(r.2.2,()))),())
theorem r_topsL (h : TokL L) (hn : n ≤ 1000) (H : HypT L n) (N0 : List Nde) (T0 : List Typ) (t0 : Int) : ∀ (f : Nat) (l : List Int) (s : Z L),Dp n s → (if s.e = 0 then L.length - s.at_ + 1 else 0) < f → l.length + f ≤ 2000000 → Items s l → Tryz.m14_7 l N0 T0 t0 L (I s.at_) s.N s.T s.top s.deep s.e s.wh = some (enc3 (fin' ((topsL n f l >>= list).run s)))
 | 0,l,s,_,hf,_,_ => by omega
 | f + 1,l,s,hd,hf,hl,hi => by
  have fin : ∀ s' : Z L,Step s s' → (Tryz.m34.R (((),l,()),((L,I s'.at_,s'.N,s'.T,s'.top,s'.deep,s'.e,s'.wh,()),()))) = some (enc ((list l).run s')) := fun s' hs => r_list h l s' (by omega) (hi.step hs)
  have e : (topsL n (f + 1) l >>= list).run s = if s.e = 0 then if (now s).kind = 0 then (list l).run s else (topsL n f (l ++ [((top n).run s).1]) >>= list).run ((top n).run s).2 else (list l).run s := by
   rw [run_bind,show (topsL n (f + 1) l : M L _) = (getZ >>= fun s => if s.e = 0 then nowM >>= fun t => if t.kind = 0 then pure l else top n >>= fun x => topsL n f (l ++ [x]) else pure l) from id rfl,run_get]
   by_cases he : s.e = 0
   ·rw [if_pos he,if_pos he,run_now]
    by_cases hk : (now s).kind = 0
    ·rw [if_pos hk,if_pos hk,run_pure]
    ·rw [if_neg hk,if_neg hk,run_bind,run_bind]
   ·rw [if_neg he,if_neg he,run_pure]
  have last : (Tryz.m34.R (((),l,()),((L,I s.at_,s.N,s.T,s.top,s.deep,s.e,s.wh,()),()))).bind (fun y3 => if (!decide (y3.snd.fst.snd.snd.snd.snd.snd.snd.fst = (0 : Int))) = true then
   some ((Dop.Tre.mk (@List.nil Dop.Nde) (@List.nil Dop.Typ) (0 : Int),(y3.snd.fst.snd.snd.snd.snd.snd.snd.snd.fst,(y3.snd.fst.snd.snd.snd.snd.snd.snd.fst,()))),())
  else
   some ((Dop.Tre.mk y3.snd.fst.snd.snd.fst y3.snd.fst.snd.snd.snd.fst y3.fst.fst,((0 : Int),((0 : Int),()))),())) = some (enc3 (fin' ((list l).run s))) := by
   refine (ob (fin s (Step.refl s))).trans ?_
   generalize (list l).run s = r
   unfold fin'
   by_cases he : r.2.e = 0
   ·rw [if_pos he]
    exact (if_neg (by simp only [enc,zt,he]; decide)).trans rfl
   ·rw [if_neg he]
    exact (if_pos (show (!decide (r.2.e = 0)) = true by rw [decide_eq_false he]; rfl)).trans rfl
  rw [Tryz.m14_7_eq,e]
  by_cases he : s.e = 0
  ·rw [if_pos (decide_eq_true he),if_pos he]
   refine (ob (r_now h s)).trans ?_
   by_cases hk : (now s).kind = 0
   ·rw [if_pos hk]
    refine (if_neg (by simp only [hk]; decide)).trans ?_
    exact last
   ·rw [if_neg hk]
    refine (if_pos (show (!decide ((now s).kind = 0)) = true by rw [decide_eq_false hk]; rfl)).trans ?_
    refine (ob (r_top h hn H s hd)).trans ?_
    refine (if_pos (room8 (by omega))).trans ?_
    have hs2 := (top n).step s
    exact r_topsL h hn H N0 T0 t0 f _ _ (hd.step hs2) (next_m (f := top n) pg_top (Step.refl _) hf he) (by simp only [List.length_append,List.length_singleton]; omega) ((hi.step hs2).snoc (it_top s))
  ·rw [if_neg (by simpa using he),if_neg he]
   exact last
theorem r_parse (h : TokL L) : Tryz.m14 L = some (enc3 (parse L)) := by
 have hlen := h.len
 have hd : Dp 101 (first L) := ⟨Int.le_refl 0,by show (0 : Int) ≤ 100; decide,by show (100 : Int) ≤ 0 + 101; decide⟩
 have e : Tryz.m14 L = Tryz.m14_7 [] [] [] 0 L (I (first L).at_) (first L).N (first L).T (first L).top (first L).deep (first L).e (first L).wh := by
  rw [Tryz.m14_eq]
  iterate 4 rw [Tryz.m14_3_eq,if_pos (by decide),if_pos (by decide),if_pos (by decide)]
  rw [Tryz.m14_3_eq,if_neg (by decide)]
  rfl
 rw [e,r_topsL h (by decide) (hypT h 101 (by decide)) [] [] 0 (L.length - (first L).at_ + 2) [] (first L) hd (by split <;> omega) (by simp only [List.length_nil]; omega) (fun x hx => by cases hx)]
 rfl
end
end Go.Proofs.TR
