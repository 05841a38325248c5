/-
 The parser's models are the plain parser: what it is made of.
-/
import Derived.Test.YtkpokomghbhadaaGreatDoorTrAP
import Derived.Test.YtkpokomghbhadaaGreatDoorLfD
namespace Go.Proofs.TR
open Go Go.En Go.En.Dop
structure TokL (L : List Tok) : Prop where
 len : L.length ≤ 1000000
 bnd : ∀ t ∈ L,0 ≤ t.at_ ∧ t.at_ + (t.text.length : Int) ≤ 1000000000
 num : ∀ t ∈ L,0 ≤ t.n ∧ t.n ≤ 1000000000000
section
variable {L : List Tok}
def zt (s : Z L) : List Tok × Int × List Nde × List Typ × Int × Int × Int × Int × Unit := (L,I s.at_,s.N,s.T,s.top,s.deep,s.e,s.wh,())
theorem getD_mem {n : Nat} (h : n < L.length) : L.getD n d4 ∈ L := by
 rw [List.getD_eq_getElem?_getD,List.getElem?_eq_getElem h]; exact List.getElem_mem h
theorem inR_of {a : Int} (h : -9223372036854775808 ≤ a) (k : a ≤ 9223372036854775807) : inR a = true := by unfold inR; exact decide_eq_true ⟨h,k⟩
theorem r_last (h : TokL L) (s : Z L) : Tryz.m56 L (I s.at_) s.N s.T s.top s.deep s.e s.wh = some ((endAt L,()),(zt s,())) := by
 rw [Tryz.m56_eq]
 by_cases h0 : L.length = 0
 ·rw [if_pos (by simp [I,h0])]
  simp [endAt,h0,zt]
 ·have hl : (I L.length - 1).toNat = L.length - 1 := by simp only [I]; omega
  have hb := h.bnd _ (getD_mem (L := L) (n := L.length - 1) (by omega))
  have hlen := h.len
  rw [if_neg (by rw [decide_eq_true_eq]; simp only [I]; omega),if_pos (inR_of (by simp only [I]; omega) (by simp only [I]; omega)),if_pos (by simp only [I,decide_eq_true_eq]; omega),hl,if_pos (inR_of (by simp only [I]; omega) (by simp only [I]; omega))]
  simp only [endAt,if_neg h0,zt,I]
theorem r_now (h : TokL L) (s : Z L) : Tryz.m32 L (I s.at_) s.N s.T s.top s.deep s.e s.wh = some ((now s,()),(zt s,())) := by
 rw [Tryz.m32_eq]
 by_cases he : s.e = 0
 ·rw [if_neg (by simp [he])]
  by_cases hl : s.at_ < L.length
  ·rw [if_neg (by simp [I]; omega),if_pos (by simp [I]; omega)]
   simp [now,he,hl,zt,I]
  ·rw [if_pos (by simp [I]; omega),r_last h]
   simp [now,hl,zt,noTok]
 ·rw [if_pos (by simp [he]),r_last h]
  simp [now,he,zt,noTok]
theorem r_node (k a : Int) : Tryz.m57 k a = some ((node k a,()),()) := Tryz.m57_eq k a
theorem r_is (h : TokL L) (x : Str) (s : Z L) : Tryz.m58 x L (I s.at_) s.N s.T s.top s.deep s.e s.wh = some ((isZ x s,()),(zt s,())) := by
 rw [Tryz.m58_eq,r_now h]
 simp only [Option.bind_some,zt]
 by_cases h1 : (now s).kind = 4
 ·rw [if_pos (by simp [h1])]
  simp [isZ,h1]
 ·rw [if_neg (by simp [h1])]
  by_cases h2 : (now s).kind = 2
  ·rw [if_pos (by simp [h2])]
   simp [isZ,h2]
  ·rw [if_neg (by simp [h2])]
   simp [isZ,h1,h2]
theorem r_take (h : TokL L) (x : Str) (s : Z L) : Tryz.m61 x L (I s.at_) s.N s.T s.top s.deep s.e s.wh = some ((((take x).run s).1,()),(zt ((take x).run s).2,())) := by
 rw [Tryz.m61_eq,r_is h]
 simp only [Option.bind_some,zt]
 have hlen := h.len
 have hat := s.hat
 cases hb : isZ x s with
 | false => simp [take,hb]
 | true =>
  have hl := isZ_lt hb
  rw [if_neg (by simp),if_pos (inR_of (by simp only [I]; omega) (by simp only [I]; omega))]
  simp [take,hb,bump_lt hl.2.1,I]
theorem r_fail (h : TokL L) (e : Int) (s : Z L) : Tryz.m81 e L (I s.at_) s.N s.T s.top s.deep s.e s.wh = some ((),(zt (failZ e s),())) := by
 rw [Tryz.m81_eq]
 by_cases he : s.e = 0
 ·rw [if_pos (by simp [he]),r_now h]
  simp [zt,failZ,he]
 ·rw [if_neg (by simp [he])]
  simp [zt,failZ,he]
theorem r_must (h : TokL L) (x : Str) (s : Z L) : Tryz.m59 x L (I s.at_) s.N s.T s.top s.deep s.e s.wh = some ((),(zt ((must x).run s).2,())) := by
 rw [Tryz.m59_eq,r_take h]
 simp only [Option.bind_some,zt,must,run_bind,run_ite]
 cases hb : ((take x).run s).1 with
 | false => simp only [Bool.not_false,if_true,r_fail h]; simp [zt,fail]
 | true => simp [run_pure]
theorem r_kind (h : TokL L) (k : Int) (hk : k ≠ 0) (s : Z L) : Tryz.m60 k L (I s.at_) s.N s.T s.top s.deep s.e s.wh = some ((((kind k).run s).1,()),(zt ((kind k).run s).2,())) := by
 rw [Tryz.m60_eq,r_now h]
 simp only [Option.bind_some,zt,kind,run_bind,run_ite,nowM,getZ,run_pure,fail,bumpM]
 have hlen := h.len
 by_cases h1 : (now s).kind = k
 ·have hl := now_lt (s := s) (by rw [h1]; exact hk)
  rw [if_neg (by simp [h1]),if_neg (by simp [hl.1]),if_pos (inR_of (by simp only [I]; omega) (by simp only [I]; omega)),if_pos ⟨h1,hl.1⟩]
  simp [bump_lt hl.2.1,I]
 ·rw [if_pos (by simp [h1]),r_fail h,if_neg (fun hc => h1 hc.1)]
  simp [zt,noTok]
theorem r_put (h : TokL L) (n : Nde) (s : Z L) : Tryz.m64 n L (I s.at_) s.N s.T s.top s.deep s.e s.wh = some ((((put n).run s).1,()),(zt ((put n).run s).2,())) := by
 rw [Tryz.m64_eq]
 have hN := s.hN
 have key : ∀ s : Z L,s.e = 0 → s.N.length < 8192 → (andC none (room 80 (s.N.length + [n].length))) = true ∧ inR (I (s.N ++ [n]).length - 1) = true ∧ I (s.N ++ [n]).length - 1 = (s.N.length : Nat) := fun s _ hl => by
  refine ⟨?_,inR_of (by simp only [I,List.length_append,List.length_singleton]; omega) (by simp only [I,List.length_append,List.length_singleton]; omega),by simp [I]⟩
  simp only [andC,room,List.length_singleton,decide_eq_true_eq]; omega
 by_cases hl : s.N.length = 8192
 ·rw [if_pos (by simp [I,hl]),r_fail h]
  have he : (failZ 4 s).e ≠ 0 := by
   unfold failZ; split
   ·exact (by decide : (4 : Int) ≠ 0)
   ·assumption
  simp only [Option.bind_some,zt]
  rw [if_pos (by simp [he])]
  simp [put,run_bind,getZ,hl,fail,putM,putZ,he,zt]
 ·rw [if_neg (by simp [I]; omega)]
  by_cases he : s.e = 0
  ·obtain ⟨k1,k2,k3⟩ := key s he (by omega)
   rw [if_neg (by simp [he]),if_pos k1,if_pos k2,k3]
   have hc : s.e = 0 ∧ s.N.length < 8192 := ⟨he,by omega⟩
   simp only [put,run_bind,getZ,run_ite,if_neg hl,putM,putZ,dif_pos hc,zt]
  ·rw [if_pos (by simp [he])]
   simp [put,run_bind,getZ,run_ite,if_neg hl,putM,putZ,he,zt]
theorem eqTyp (a b : Typ) : eqSs (List.take (4 : Nat) (List.drop (0 : Nat) (SV.v (Value.int IntKind.i64 a.kind) :: SV.v (Value.int IntKind.i64 a.elem) :: SV.v (Value.int IntKind.i64 a.n) :: SV.v (Value.string (ByteArray.mk (Array.mk a.name))) :: @List.nil SV ++ @List.nil SV))) (List.take (4 : Nat) (List.drop (0 : Nat) (SV.v (Value.int IntKind.i64 b.kind) :: SV.v (Value.int IntKind.i64 b.elem) :: SV.v (Value.int IntKind.i64 b.n) :: SV.v (Value.string (ByteArray.mk (Array.mk b.name))) :: @List.nil SV))) = decide (b = a) := by
 show (decide (a.kind = b.kind) && (decide (a.elem = b.elem) && (decide (a.n = b.n) && (decide (a.name = b.name) && true)))) = _
 obtain ⟨a1,a2,a3,a4⟩ := a
 obtain ⟨b1,b2,b3,b4⟩ := b
 rw [Bool.eq_iff_iff]
 simp only [Bool.and_eq_true,decide_eq_true_eq,Bool.and_true,Typ.mk.injEq]
 constructor
 ·rintro ⟨rfl,rfl,rfl,rfl⟩; exact ⟨rfl,rfl,rfl,rfl⟩
 ·rintro ⟨rfl,rfl,rfl,rfl⟩; exact ⟨rfl,rfl,rfl,rfl⟩
theorem r_idx (x : Typ) (l : List Typ) : ∀ (k : Nat),k ≤ l.length → l.length ≤ 1000000 → Tryz.m101_2 l (I l.length) (I k) x = some ((idx x (l.drop k) k,()),()) := by
 intro k hk hl
 generalize hm : l.length - k = m
 induction m generalizing k with
 | zero =>
  rw [Tryz.m101_2_eq,if_neg (by simp only [I,decide_eq_true_eq]; omega)]
  rw [List.drop_eq_nil_of_le (by omega)]
  rfl
 | succ m ih =>
  have hlt : k < l.length := by omega
  have hd : l.drop k = l.getD k d6 :: l.drop (k + 1) := by
   rw [List.getD_eq_getElem?_getD,List.getElem?_eq_getElem hlt]; exact (List.drop_eq_getElem_cons hlt)
  rw [Tryz.m101_2_eq,if_pos (by simp only [I,decide_eq_true_eq]; omega),if_pos (by simp only [I,decide_eq_true_eq]; omega),eqTyp,hd,show (I k).toNat = k from rfl]
  by_cases hx : l.getD k d6 = x
  ·rw [if_pos (by simp only [hx,decide_true]),idx,if_pos hx]
  ·rw [if_neg (by simpa using hx),idx,if_neg hx,if_pos (inR_of (by simp only [I]; omega) (by simp only [I]; omega))]
   exact ih (k + 1) (by omega) (by omega)
theorem r_typed (h : TokL L) (x : Typ) (s : Z L) : Tryz.m83 x L (I s.at_) s.N s.T s.top s.deep s.e s.wh = some ((((typed x).run s).1,()),(zt ((typed x).run s).2,())) := by
 have hT := s.hT
 rw [Tryz.m83_eq,Tryz.m101_eq,show (0 : Int) = I 0 from rfl,r_idx x s.T 0 (Nat.zero_le _) (by omega)]
 simp only [Option.bind_some,List.drop_zero,typed,run_bind,getZ,run_ite,run_pure]
 by_cases h1 : 0 ≤ idx x s.T 0
 ·rw [if_pos (by simpa [I] using h1),if_pos h1]
  simp [zt]
 ·rw [if_neg (by simpa [I] using h1),if_neg h1]
  by_cases h2 : s.T.length = 256
  ·rw [if_pos (by simp [I,h2]),if_pos h2,r_fail h]
   simp [zt,fail,I]
  ·have h3 : s.T.length < 256 := by omega
   rw [if_neg (by simp only [I,decide_eq_true_eq]; omega),if_neg h2,if_pos (by simp only [andC,room,List.length_singleton,decide_eq_true_eq]; omega),if_pos (inR_of (by simp only [I,List.length_append,List.length_singleton]; omega) (by simp only [I,List.length_append,List.length_singleton]; omega))]
   simp [addT,h3,zt,I]
theorem types_st (s : Z L) : (types.run s).2 = s := by
 simp only [types,run_bind,run_ite,run_pure,is]
 repeat' split
 all_goals rfl
theorem r_types (h : TokL L) (s : Z L) : Tryz.m117 L (I s.at_) s.N s.T s.top s.deep s.e s.wh = some (((types.run s).1,()),(zt s,())) := by
 rw [Tryz.m117_eq]
 simp only [r_is h,Option.bind_some,zt,types,run_bind,run_ite,run_pure,is]
 repeat' split
 all_goals rfl
theorem rq_last (h : TokL L) (s : Z L) : Tryz.m56q L (I s.at_) s.top s.deep s.e s.wh = some ((endAt L,()),((L,I s.at_,(),(),s.top,s.deep,s.e,s.wh,()),())) := by
 rw [Tryz.m56q_eq]
 by_cases h0 : L.length = 0
 ·rw [if_pos (by simp [I,h0])]
  simp [endAt,h0]
 ·have hl : (I L.length - 1).toNat = L.length - 1 := by simp only [I]; omega
  have hb := h.bnd _ (getD_mem (L := L) (n := L.length - 1) (by omega))
  have hlen := h.len
  rw [if_neg (by rw [decide_eq_true_eq]; simp only [I]; omega),if_pos (inR_of (by simp only [I]; omega) (by simp only [I]; omega)),if_pos (by simp only [I,decide_eq_true_eq]; omega),hl,if_pos (inR_of (by simp only [I]; omega) (by simp only [I]; omega))]
  simp only [endAt,if_neg h0,I]
theorem rq_now (h : TokL L) (s : Z L) : Tryz.m32q L (I s.at_) s.top s.deep s.e s.wh = some ((now s,()),((L,I s.at_,(),(),s.top,s.deep,s.e,s.wh,()),())) := by
 rw [Tryz.m32q_eq]
 by_cases he : s.e = 0
 ·rw [if_neg (by simp [he])]
  by_cases hl : s.at_ < L.length
  ·rw [if_neg (by simp [I]; omega),if_pos (by simp [I]; omega)]
   simp [now,he,hl,I]
  ·rw [if_pos (by simp [I]; omega),rq_last h]
   simp [now,hl,noTok]
 ·rw [if_pos (by simp [he]),rq_last h]
  simp [now,he,noTok]
theorem rq_is (h : TokL L) (x : Str) (s : Z L) : Tryz.m58q x L (I s.at_) s.top s.deep s.e s.wh = some ((isZ x s,()),((L,I s.at_,(),(),s.top,s.deep,s.e,s.wh,()),())) := by
 rw [Tryz.m58q_eq,rq_now h]
 simp only [Option.bind_some]
 by_cases h1 : (now s).kind = 4
 ·rw [if_pos (by simp [h1])]
  simp [isZ,h1]
 ·rw [if_neg (by simp [h1])]
  by_cases h2 : (now s).kind = 2
  ·rw [if_pos (by simp [h2])]
   simp [isZ,h2]
  ·rw [if_neg (by simp [h2])]
   simp [isZ,h1,h2]
theorem rq_types (h : TokL L) (s : Z L) : Tryz.m117q L (I s.at_) s.top s.deep s.e s.wh = some (((types.run s).1,()),((L,I s.at_,(),(),s.top,s.deep,s.e,s.wh,()),())) := by
 rw [Tryz.m117q_eq]
 simp only [rq_is h,Option.bind_some,types,run_bind,run_ite,run_pure,is]
 repeat' split
 all_goals rfl
theorem r_stars (h : TokL L) : ∀ (f : Nat) (t : Int) (s : Z L),L.length - s.at_ < f → Tryz.m82_11 t L (I s.at_) s.N s.T s.top s.deep s.e s.wh = some ((((starsL f t).run s).1,()),(zt ((starsL f t).run s).2,()))
 | 0,t,s,hf => by omega
 | f + 1,t,s,hf => by
  rw [Tryz.m82_11_eq]
  simp only [r_take h,Option.bind_some,zt,starsL,run_bind,run_ite,run_pure]
  by_cases hb : ((take [42]).run s).1 = true
  ·rw [if_pos hb,if_pos hb]
   simp only [r_typed h,Option.bind_some,zt]
   have ha := take_at hb
   have hs := (typed (⟨4,t,0,[]⟩ : Typ)).step ((take [42]).run s).2
   exact r_stars h f _ _ (by have := hs.at_; omega)
  ·rw [if_neg hb,if_neg hb]
theorem r_base (h : TokL L) (s : Z L) : Tryz.m82 L (I s.at_) s.N s.T s.top s.deep s.e s.wh = some (((base.run s).1,()),(zt (base.run s).2,())) := by
 have hst : ∀ t (s : Z L),Tryz.m82_11 t L (I s.at_) s.N s.T s.top s.deep s.e s.wh = some ((((stars t).run s).1,()),(zt ((stars t).run s).2,())) := fun t s => by
  rw [r_stars h (L.length - s.at_ + 1) t s (by omega)]; rfl
 rw [Tryz.m82_eq]
 simp only [r_take h,r_must h,r_kind h 1 (by decide),r_typed h,Option.bind_some,zt,hst,base,run_bind,run_ite,run_pure]
 repeat' split
 all_goals rfl
theorem r_array (h : TokL L) (t : Int) (s : Z L) : Tryz.m63 t L (I s.at_) s.N s.T s.top s.deep s.e s.wh = some ((((array t).run s).1,()),(zt ((array t).run s).2,())) := by
 rw [Tryz.m63_eq]
 simp only [r_take h,r_must h,r_kind h 3 (by decide),r_typed h,Option.bind_some,zt,array,run_bind,run_ite,run_pure]
 cases ((take [91]).run s).1 <;> rfl
theorem r_param (h : TokL L) (s : Z L) : Tryz.m62 L (I s.at_) s.N s.T s.top s.deep s.e s.wh = some (((param.run s).1,()),(zt (param.run s).2,())) := by
 rw [Tryz.m62_eq]
 simp only [r_now h,r_node,r_base h,r_kind h 1 (by decide),Option.bind_some,zt,param,run_bind,run_pure,nowM]
def Items (s : Z L) (l : List Int) : Prop := ∀ x ∈ l,x < (s.N.length : Nat)
theorem Items.step {s s' : Z L} {l : List Int} (hi : Items s l) (hs : Step s s') : Items s' l := fun x hx => Int.lt_of_lt_of_le (hi x hx) (by have := hs.N.length_le; omega)
theorem r_listL (h : TokL L) : ∀ (l : List Int) (out : Int) (s : Z L),Items s l → Tryz.m34.go l ((),((L,I s.at_,s.N,s.T,s.top,s.deep,s.e,s.wh,()),((),()),(out,()),())) =
  some ((),((zt ((listL l out).run s).2),((),()),(((listL l out).run s).1,()),()))
 | [],out,s,_ => rfl
 | x :: r,out,s,hi => by
  have hst : Tryz.m67 x L (I s.at_) s.N s.T s.top s.deep s.e s.wh = some ((startZ s x,()),(zt s,())) := by
   rw [Tryz.m67_eq]
   have hx := hi x List.mem_cons_self
   by_cases h0 : x < 0
   ·rw [if_pos (by simpa using h0)]; simp [startZ,h0,zt]
   ·rw [if_neg (by simpa using h0),if_pos (by simp only [I,decide_eq_true_eq]; omega),if_pos (by simp only [decide_eq_true_eq]; omega)]
    simp [startZ,h0,zt]
  simp only [Tryz.m34.go]
  rw [Tryz.m34.step_eq,hst]
  simp only [Option.bind_some,r_node,zt,r_put h,node]
  exact r_listL h r _ _ ((show Items s r from fun y hy => hi y (List.mem_cons_of_mem _ hy)).step ((put _).step s))
theorem r_list (h : TokL L) (l : List Int) (s : Z L) (hl : l.length < 9223372036854775807) (hi : Items s l) : Tryz.m34.R (((),l,()),((L,I s.at_,s.N,s.T,s.top,s.deep,s.e,s.wh,()),())) = some ((((list l).run s).1,()),(zt ((list l).run s).2,())) := by
 unfold Tryz.m34.R
 simp only [decide_eq_true hl]
 rw [r_listL h l.reverse (-1) s fun x hx => hi x (List.mem_reverse.1 hx)]
 rfl
end
end Go.Proofs.TR
