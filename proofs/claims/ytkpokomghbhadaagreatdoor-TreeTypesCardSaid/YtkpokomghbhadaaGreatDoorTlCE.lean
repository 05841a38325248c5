/- TreeLists is true of any two numbers. -/
import Derived.Test.YtkpokomghbhadaaGreatDoorTlAB
import Derived.Test.YtkpokomghbhadaaGreatDoorTrM
import Derived.Test.YtkpokomghbhadaaGreatDoorLfD
import Derived.Test.YtkpokomghbhadaaGreatDoorTrT
import Derived.Lib.ItoaMem
import Derived.Lib.ItoaLen
import Derived.Test.YtkpokomghbhadaaGreatDoorSc
set_option maxRecDepth 100000
namespace Go.Proofs.TR
open Go Go.En Go.En.Dop
theorem Sd.kw {x v : Str} (hx : Sc.isName x = true) (hw : x ∈ Sc.words) (hv : Sc.Brk v) : Sc.Sd x [wd x] v := by
 have h := Sc.Sd.name hx hv
 rw [if_pos hw] at h; exact h
theorem Sd.idn {x v : Str} (hx : Sc.isName x = true) (hw : x ∉ Sc.words) (hv : Sc.Brk v) : Sc.Sd x [nm x] v := by
 have h := Sc.Sd.name hx hv
 rw [if_neg hw] at h; exact h
theorem brk {c : UInt8} {v : Str} (h : Sc.aln c = false) : Sc.Brk (c :: v) := fun d r e => by cases e; exact h
theorem sd_end {x v : Str} (hx : Sc.sgB x = true) (h : ∀ y ∈ Sc.signs,x <+: y → y = x) : Sc.Sd x [sg x] v := Sc.Sd.end_ hx h
theorem rep_len (ts : List Tok) : ∀ k,(rep ts k).length = k * ts.length
 | 0 => by simp [rep]
 | k + 1 => by unfold rep; rw [List.length_append,rep_len ts k,Nat.succ_mul]; omega
theorem listN_items (t : Tre) : ∀ (l : List Int) (N : List Nde) (o : Int),(items N l o).1 <+: t.nodes → ∀ cnt,listN t (l.length + cnt) (items N l o).2 = l.reverse ++ listN t cnt o
 | [],N,o,_,cnt => by simp [items]
 | x :: r,N,o,h,cnt => by
  unfold items at h ⊢
  have h1 := listN_items t r _ _ h (cnt + 1)
  have e1 : (x :: r).length + cnt = r.length + (cnt + 1) := by simp only [List.length_cons]; omega
  rw [e1,h1,List.reverse_cons,List.append_assoc]
  congr 1
  have hp : (N ++ [itemN (if x < 0 then 0 else (N.getD x.toNat d5).at_) x o]) <+: t.nodes := (items_pre r _ _).1.trans h
  obtain ⟨q,hq⟩ := hp
  have hg : atN t ((N.length : Nat) : Int) = itemN (if x < 0 then 0 else (N.getD x.toNat d5).at_) x o := by
   unfold atN
   rw [if_neg (by omega),if_neg (by rw [← hq]; simp only [List.length_append,List.length_singleton]; omega)]
   rw [List.getD_eq_getElem?_getD,← hq]
   simp
  show (if (atN t ((N.length : Nat) : Int)).kind = 20 then _ else _) = _
  rw [hg]
  exact if_pos (show (itemN (if x < 0 then 0 else (N.getD x.toNat d5).at_) x o).kind = 20 from rfl)
theorem listN_none (t : Tre) (cnt : Nat) : listN t cnt (-1) = [] := by
 cases cnt with
 | zero => rfl
 | succ k =>
  show (if (atN t (-1)).kind = 20 then _ else _) = _
  rw [if_neg (by unfold atN; rw [if_pos (by decide)]; decide)]
theorem list_is {t : Tre} (ht : t.nodes.length ≤ 8192) {N : List Nde} {l : List Int} (hp : (items N l.reverse (-1)).1 <+: t.nodes) : Tryz.m8 t (items N l.reverse (-1)).2 = some ((l,()),()) := by
 rw [list_v t ht]
 have h1 := listN_items t l.reverse N (-1) hp (t.nodes.length - l.length)
 have h2 : l.length ≤ t.nodes.length := by
  have h3 := hp.length_le
  rw [(items_pre _ _ _).2,List.length_reverse] at h3
  omega
 rw [List.length_reverse,show l.length + (t.nodes.length - l.length) = t.nodes.length by omega,listN_none,List.append_nil,List.reverse_reverse] at h1
 rw [h1]
end Go.Proofs.TR
/- Types as trees, and their texts: what tree.Text tells. -/
set_option maxRecDepth 100000
namespace Go.Proofs.TR
open Go Go.En Go.En.Dop
inductive TyX where
 | base (k : Nat)
 | ptr (t : TyX)
 | arr (t : TyX) (n : Int)
 | str (s : Str)
def RepT (T : List Typ) : TyX → Int → Prop
 | .base k,i => 0 ≤ i ∧ k < 4 ∧ ∃ x,T[i.toNat]? = some x ∧ x.kind = (k : Nat)
 | .ptr t,i => 0 ≤ i ∧ ∃ x,T[i.toNat]? = some x ∧ x.kind = 4 ∧ RepT T t x.elem
 | .arr t n,i => 0 ≤ i ∧ ∃ x,T[i.toNat]? = some x ∧ x.kind = 5 ∧ x.n = n ∧ RepT T t x.elem
 | .str s,i => 0 ≤ i ∧ ∃ x,T[i.toNat]? = some x ∧ x.kind = 6 ∧ x.name = s
theorem getE_pre {α : Type} {l l' : List α} {i : Nat} {x : α} (h : l <+: l') (hi : l[i]? = some x) : l'[i]? = some x := by
 obtain ⟨q,rfl⟩ := h
 rw [List.getElem?_append_left (List.getElem?_eq_some_iff.1 hi).1,hi]
theorem RepT.mono {T T' : List Typ} (h : T <+: T') : ∀ {t : TyX} {i : Int},RepT T t i → RepT T' t i
 | .base _,_,⟨h0,hk,x,h1,h2⟩ => ⟨h0,hk,x,getE_pre h h1,h2⟩
 | .ptr t,_,⟨h0,x,h1,h2,h3⟩ => ⟨h0,x,getE_pre h h1,h2,RepT.mono h h3⟩
 | .arr t _,_,⟨h0,x,h1,h2,h3,h4⟩ => ⟨h0,x,getE_pre h h1,h2,h3,RepT.mono h h4⟩
 | .str _,_,⟨h0,x,h1,h2,h3⟩ => ⟨h0,x,getE_pre h h1,h2,h3⟩
def bname : Nat → Str
 | 0 => [118,111,105,100]
 | 1 => [105,110,116]
 | 2 => [117,110,115,105,103,110,101,100]
 | _ => [99,104,97,114]
def prT : TyX → Str → Str
 | .base k,out => bname k ++ out
 | .ptr t,out => prT t ([42] ++ out)
 | .arr t n,out => prT t ([91] ++ Lib.itoa n ++ [93] ++ out)
 | .str s,out => [115,116,114,117,99,116,32] ++ s ++ out
def TyX.deep : TyX → Nat
 | .base _ => 1
 | .ptr t => t.deep + 1
 | .arr t _ => t.deep + 1
 | .str _ => 1
def TyX.nums : TyX → Prop
 | .ptr t => t.nums
 | .arr t n => (-9223372036854775808 ≤ n ∧ n ≤ 9223372036854775807) ∧ t.nums
 | _ => True
theorem prT_out : ∀ (t : TyX) (a b : Str),prT t (a ++ b) = prT t a ++ b
 | .base k,a,b => by simp [prT]
 | .ptr t,a,b => by unfold prT; rw [← List.append_assoc,prT_out t]
 | .arr t n,a,b => by unfold prT; rw [← List.append_assoc,prT_out t]
 | .str s,a,b => by simp [prT]
theorem prT_len (t : TyX) (a : Str) : (prT t a).length = (prT t []).length + a.length := by
 have h := prT_out t [] a
 rw [List.nil_append] at h
 rw [h,List.length_append]
theorem text_v (tr : Tre) (hT : tr.types.length ≤ 256) : ∀ (t : TyX) (i : Int) (j : Nat) (out : Str),RepT tr.types t i → t.nums → t.deep + j ≤ tr.types.length → (prT t out).length ≤ 9223372036854775807 →
  Tryz.m11_3 i out (I tr.types.length) (I j) tr = some ((prT t out,()),())
 | t,i,j,out,hr,hn,hd,hl => by
  have hd1 : 1 ≤ t.deep := by cases t <;> simp [TyX.deep]
  obtain ⟨h0,x,hx⟩ : 0 ≤ i ∧ ∃ x,tr.types[i.toNat]? = some x := by
   cases t with
   | base k => obtain ⟨a,_,x,b,_⟩ := hr; exact ⟨a,x,b⟩
   | ptr t => obtain ⟨a,x,b,_⟩ := hr; exact ⟨a,x,b⟩
   | arr t n => obtain ⟨a,x,b,_⟩ := hr; exact ⟨a,x,b⟩
   | str s => obtain ⟨a,x,b,_⟩ := hr; exact ⟨a,x,b⟩
  have hlt := (List.getElem?_eq_some_iff.1 hx).1
  have hg : tr.types.getD i.toNat d6 = x := by rw [List.getD_eq_getElem?_getD,hx]; rfl
  rw [Tryz.m11_3_eq]
  refine (if_pos (decide_eq_true (by simp only [I]; omega))).trans ?_
  refine (if_neg (show ¬ decide (i < 0) = true by rw [decide_eq_false (by omega)]; decide)).trans ?_
  refine (if_neg (show ¬ decide (I tr.types.length ≤ i) = true by rw [decide_eq_false (by simp only [I]; omega)]; decide)).trans ?_
  refine (if_pos (decide_eq_true (show (0 : Int) ≤ i ∧ i < I tr.types.length by simp only [I]; omega))).trans ?_
  rw [hg]
  have rj : inR (I j + 1) = true := inR_of (by simp only [I]; omega) (by simp only [I]; omega)
  cases t with
  | ptr t =>
   obtain ⟨_,y,hy,hk,he⟩ := hr
   rw [hx] at hy; cases hy
   have l1 := prT_len t ([42] ++ out)
   have hl' : (prT t ([42] ++ out)).length ≤ 9223372036854775807 := hl
   rw [List.length_append] at l1
   have l2 : ([42] : Str).length = 1 := rfl
   refine (if_pos (decide_eq_true hk)).trans ?_
   refine (if_pos (decide_eq_true (show 1 + out.length ≤ 9223372036854775807 by omega))).trans ?_
   refine (if_pos rj).trans ?_
   exact text_v tr hT t x.elem (j + 1) _ he hn (by simp only [TyX.deep] at hd; omega) hl'
  | arr t n =>
   obtain ⟨_,y,hy,hk,hn',he⟩ := hr
   rw [hx] at hy; cases hy
   have hl' : (prT t ([91] ++ Lib.itoa n ++ [93] ++ out)).length ≤ 9223372036854775807 := hl
   have l1 := prT_len t ([91] ++ Lib.itoa n ++ [93] ++ out)
   have l2 : ([91] : Str).length = 1 := rfl
   have l3 : ([93] : Str).length = 1 := rfl
   simp only [List.length_append,l2,l3] at l1
   refine (if_neg (show ¬ decide (x.kind = 4) = true by rw [hk]; decide)).trans ?_
   refine (if_pos (decide_eq_true hk)).trans ?_
   rw [hn']
   refine (if_pos (show inI n = true from decide_eq_true hn.1)).trans ?_
   refine (if_pos (decide_eq_true (show 1 + (Lib.itoa n).length ≤ 9223372036854775807 by omega))).trans ?_
   refine (if_pos (decide_eq_true (show ([91] ++ Lib.itoa n).length + 1 ≤ 9223372036854775807 by rw [List.length_append,l2]; omega))).trans ?_
   refine (if_pos (decide_eq_true (show ([91] ++ Lib.itoa n ++ [93]).length + out.length ≤ 9223372036854775807 by rw [List.length_append,List.length_append,l2,l3]; omega))).trans ?_
   refine (if_pos rj).trans ?_
   exact text_v tr hT t x.elem (j + 1) _ he hn.2 (by simp only [TyX.deep] at hd; omega) hl'
  | str s =>
   obtain ⟨_,y,hy,hk,hs⟩ := hr
   rw [hx] at hy; cases hy
   have hl' : ([115,116,114,117,99,116,32] ++ s ++ out).length ≤ 9223372036854775807 := hl
   have l2 : ([115,116,114,117,99,116,32] : Str).length = 7 := rfl
   simp only [List.length_append,l2] at hl'
   refine (if_neg (show ¬ decide (x.kind = 4) = true by rw [hk]; decide)).trans ?_
   refine (if_neg (show ¬ decide (x.kind = 5) = true by rw [hk]; decide)).trans ?_
   refine (if_pos (decide_eq_true hk)).trans ?_
   rw [hs]
   refine (if_pos (decide_eq_true (show 7 + s.length ≤ 9223372036854775807 by omega))).trans ?_
   exact (if_pos (decide_eq_true (show ([115,116,114,117,99,116,32] ++ s).length + out.length ≤ 9223372036854775807 by rw [List.length_append,l2]; omega)))
  | base k =>
   obtain ⟨_,hk4,y,hy,hk⟩ := hr
   rw [hx] at hy; cases hy
   have hl' : (bname k ++ out).length ≤ 9223372036854775807 := hl
   rw [List.length_append] at hl'
   rw [hk]
   have hks : k = 0 ∨ k = 1 ∨ k = 2 ∨ k = 3 := by omega
   rcases hks with rfl | rfl | rfl | rfl
   ·refine (if_pos (decide_eq_true (show (4 : Nat) + out.length ≤ 9223372036854775807 from hl')))
   ·refine (if_pos (decide_eq_true (show (3 : Nat) + out.length ≤ 9223372036854775807 from hl')))
   ·refine (if_pos (decide_eq_true (show (8 : Nat) + out.length ≤ 9223372036854775807 from hl')))
   ·refine (if_pos (decide_eq_true (show (4 : Nat) + out.length ≤ 9223372036854775807 from hl')))
theorem text_all {tr : Tre} (hT : tr.types.length ≤ 256) {t : TyX} {i : Int} (hr : RepT tr.types t i) (hn : t.nums) (hd : t.deep ≤ tr.types.length) (hl : (prT t []).length ≤ 9223372036854775807) : Tryz.m11 tr i = some ((prT t [],()),()) := by
 rw [Tryz.m11_eq]
 exact text_v tr hT t i 0 [] hr hn (by omega) hl
theorem text_out (tr : Tre) (h1 : 0 < tr.types.length) (i : Int) (hi : i < 0 ∨ I tr.types.length ≤ i) : Tryz.m11 tr i = some (([],()),()) := by
 rw [Tryz.m11_eq,Tryz.m11_3_eq]
 refine (if_pos (decide_eq_true (show (0 : Int) < I tr.types.length by simp only [I]; omega))).trans ?_
 by_cases h : i < 0
 ·exact if_pos (decide_eq_true h)
 ·refine (if_neg (show ¬ decide (i < 0) = true by rw [decide_eq_false h]; decide)).trans ?_
  exact if_pos (decide_eq_true (by rcases hi with hi | hi; exact absurd hi h; exact hi))
end Go.Proofs.TR
/- TreeTypes is true of any two small numbers, and one more. -/
set_option maxRecDepth 100000
namespace Go.Proofs.TR
open Go Go.En Go.En.Dop
theorem dec_num : ∀ (u : Nat),Sc.Num 10 u (Lib.decDigits u) := by
 intro u
 induction u using Nat.strongRecOn with
 | _ u ih =>
  have h1 : ∀ n : Fin 10,Sc.hexB (UInt8.ofNat (48 + n.val)) = n.val ∧ Sc.aln (UInt8.ofNat (48 + n.val)) = true := by decide +kernel
  by_cases h : u < 10
  ·rw [Lib.decDigits,dif_pos h]
   exact Sc.Num.one u _ h (h1 ⟨u,h⟩).1 (h1 ⟨u,h⟩).2
  ·rw [Lib.decDigits,dif_neg h]
   have h2 := h1 ⟨u % 10,Nat.mod_lt _ (by decide)⟩
   exact Sc.Num.more u _ _ h (ih (u / 10) (by omega)) h2.1 h2.2
theorem sd_num {u : Nat} (hu : u ≤ 4294967295) {v : Str} (hv : Sc.Brk v) : Sc.Sd (Lib.itoa u) [⟨3,Lib.itoa u,(u : Int),0⟩] v := by
 have hn := dec_num u
 rw [Lib.itoa_nonneg]
 have hval := Sc.val_dec hn
 rw [if_pos hu] at hval
 have ha := Sc.num_aln (by decide) hn
 cases hd : Lib.decDigits u with
 | nil => exact absurd hd (Sc.num_ne hn)
 | cons c r =>
  rw [hd] at hval ha
  exact Sc.Sd.num (Sc.hex_dig (ha c List.mem_cons_self).2) (fun d hd => (ha d (List.mem_cons_of_mem _ hd)).1) hval hv
section
variable {L : List Tok} {p p' : Nat} {N N' : List Nde} {T T' : List Typ} {d : Int}
theorem idx_no {x : Typ} : ∀ {T : List Typ} {k : Nat},(∀ y ∈ T,y ≠ x) → idx x T k = -1
 | [],_,_ => rfl
 | y :: r,k,h => by
  unfold idx
  rw [if_neg (h y List.mem_cons_self)]
  exact idx_no fun z hz => h z (List.mem_cons_of_mem _ hz)
theorem Gz.typed {x : Typ} (hx : ∀ y ∈ T,y ≠ x) (hT : T.length < 256) : Gz (L := L) d (typed x) p N T ((T.length : Nat) : Int) p N (T ++ [x]) := by
 unfold TR.typed
 refine Gz.get fun s hs => ?_
 rw [hs.T,idx_no hx]
 refine Gz.i0 (by decide) (Gz.i0 (by omega) fun s hs => ?_)
 have e : (addT x).run s = (((s.T.length : Nat) : Int),{ s with T := s.T ++ [x],hT := by rw [List.length_append,hs.T]; exact hT }) := dif_pos (by rw [hs.T]; exact hT)
 rw [e]
 exact ⟨by show ((s.T.length : Nat) : Int) = _; rw [hs.T],hs.at_,hs.N,by show s.T ++ [x] = _; rw [hs.T],hs.deep,hs.e⟩
def NoP (T : List Typ) (t : Int) : Prop := ∀ y ∈ T,y.kind = 4 → y.elem < t
theorem gz_stars {q : Tok} (hq : ((decide (q.kind = 4) || decide (q.kind = 2)) && decide (q.text = [42])) = false) : ∀ (k : Nat) (p : Nat) (T : List Typ) (t : Int) (X : TyX) (f : Nat) {ts : List Tok},Rm L p (rep [sg [42]] k ++ q :: ts) → RepT T X t → NoP T t → t < (T.length : Nat) → T.length + k ≤ 256 → k < f → X.deep ≤ T.length → (∀ y ∈ T,y.kind ≠ 5) →
  ∃ t' T',Gz (L := L) d (starsL f t) p N T t' (p + k) N T' ∧ RepT T' (Nat.rec X (fun _ Y => .ptr Y) k) t' ∧ T'.length = T.length + k ∧ (Nat.rec X (fun _ Y => .ptr Y) k : TyX).deep ≤ T'.length ∧ T <+: T' ∧ (∀ y ∈ T',y.kind ≠ 5)
 | 0,p,T,t,X,f + 1,ts,h,hr,hn,ht,hT,hf,hd,h5 => by
  obtain ⟨k,x,n,a⟩ := q
  refine ⟨t,T,?_,hr,rfl,hd,List.prefix_refl _,h5⟩
  unfold starsL
  exact Gz.t0 (Rm.hd (show Rm L p (⟨k,x,n,a⟩ :: ts) from h)) hq (Gz.pu _)
 | k + 1,p,T,t,X,f + 1,ts,h,hr,hn,ht,hT,hf,hd,h5 => by
  have h' : Rm L p (sg [42] :: (rep [sg [42]] k ++ q :: ts)) := by simpa [rep] using h
  have hx : ∀ y ∈ T,y ≠ (⟨4,t,0,[]⟩ : Typ) := fun y hy e => by
   have := hn y hy (by rw [e])
   rw [e] at this
   exact absurd this (Int.lt_irrefl _)
  have hr2 : RepT (T ++ [⟨4,t,0,[]⟩]) (.ptr X) ((T.length : Nat) : Int) := by
   refine ⟨Int.natCast_nonneg _,⟨4,t,0,[]⟩,?_,rfl,hr.mono (List.prefix_append _ _)⟩
   simp
  have hn2 : NoP (T ++ [⟨4,t,0,[]⟩]) ((T.length : Nat) : Int) := fun y hy hk => by
   rcases List.mem_append.1 hy with hy | hy
   ·exact Int.lt_trans (hn y hy hk) ht
   ·rw [List.mem_singleton.1 hy]; exact ht
  have h52 : ∀ y ∈ T ++ [(⟨4,t,0,[]⟩ : Typ)],y.kind ≠ 5 := fun y hy => by
   rcases List.mem_append.1 hy with hy | hy
   ·exact h5 y hy
   ·rw [List.mem_singleton.1 hy]; show (4 : Int) ≠ 5; decide
  have l1 : (T ++ [(⟨4,t,0,[]⟩ : Typ)]).length = T.length + 1 := by simp
  obtain ⟨t',T',g1,g2,g3,g4,g5,g6⟩ := gz_stars hq k (p + 1) (T ++ [⟨4,t,0,[]⟩]) ((T.length : Nat) : Int) (.ptr X) f h'.tl hr2 hn2 (by rw [l1]; omega) (by rw [l1]; omega) (by omega) (by rw [l1]; show X.deep + 1 ≤ _; omega) h52
  have e : ∀ k : Nat,(Nat.rec (TyX.ptr X) (fun _ Y => .ptr Y) k : TyX) = (Nat.rec X (fun _ Y => .ptr Y) (k + 1) : TyX) := fun k => by
   induction k with
   | zero => rfl
   | succ k ih => exact congrArg TyX.ptr ih
  rw [e] at g2 g4
  refine ⟨t',T',?_,g2,by rw [g3,l1]; omega,g4,(List.prefix_append _ _).trans g5,g6⟩
  unfold starsL
  rw [show p + (k + 1) = p + 1 + k by omega]
  exact Gz.t1 h'.hd rfl ((Gz.typed hx (by omega)).b g1)
def btok : Nat → List Tok
 | 0 => [wd [105,110,116]]
 | 1 => [wd [117,110,115,105,103,110,101,100]]
 | 2 => [wd [99,104,97,114]]
 | _ => [wd [115,116,114,117,99,116],nm [115]]
def bty : Nat → TyX
 | 0 => .base 1
 | 1 => .base 2
 | 2 => .base 3
 | _ => .str [115]
theorem gz_baseX {b k : Nat} (hb : b < 4) (hk : k ≤ 20) {q : Tok} {ts : List Tok} (hq : ((decide (q.kind = 4) || decide (q.kind = 2)) && decide (q.text = [42])) = false) (h : Rm L p (btok b ++ (rep [sg [42]] k ++ q :: ts))) :
  ∃ t' T',Gz (L := L) d base p N types0 t' (p + (btok b).length + k) N T' ∧ RepT T' (Nat.rec (bty b) (fun _ Y => .ptr Y) k) t' ∧ T'.length ≤ 5 + k ∧ (Nat.rec (bty b) (fun _ Y => .ptr Y) k : TyX).deep ≤ T'.length ∧ types0 <+: T' ∧ (∀ y ∈ T',y.kind ≠ 5) := by
 have h50 : ∀ y ∈ types0,y.kind ≠ 5 := by decide
 have n0 : ∀ t,NoP types0 t := fun t y hy hk => absurd hk (by revert y; decide)
 have lf : ∀ p,Rm L p (rep [sg [42]] k ++ q :: ts) → k < L.length - p + 1 := fun p h => by
  have h1 := congrArg List.length (show (L.drop p).map Sc.strip = _ from h)
  rw [List.length_map,List.length_drop,List.length_append,rep_len] at h1
  simp only [List.length_cons,List.length_nil] at h1
  omega
 unfold base
 match b,hb with
 | 0,_ =>
  have h' : Rm L p (wd [105,110,116] :: (rep [sg [42]] k ++ q :: ts)) := h
  obtain ⟨t',T',g1,g2,g3,g4,g5,g6⟩ := gz_stars (d := d) (N := N) hq k (p + 1) types0 1 (.base 1) (L.length - (p + 1) + 1) h'.tl ⟨by decide,by decide,_,rfl,rfl⟩ (n0 _) (by decide) (by show 4 + k ≤ 256; omega) (lf _ h'.tl) (by decide) h50
  refine ⟨t',T',Gz.t0 h'.hd rfl (Gz.t1 h'.hd rfl (Gz.left g1)),g2,by rw [g3]; show 4 + k ≤ _; omega,g4,g5,g6⟩
 | 1,_ =>
  have h' : Rm L p (wd [117,110,115,105,103,110,101,100] :: (rep [sg [42]] k ++ q :: ts)) := h
  obtain ⟨t',T',g1,g2,g3,g4,g5,g6⟩ := gz_stars (d := d) (N := N) hq k (p + 1) types0 2 (.base 2) (L.length - (p + 1) + 1) h'.tl ⟨by decide,by decide,_,rfl,rfl⟩ (n0 _) (by decide) (by show 4 + k ≤ 256; omega) (lf _ h'.tl) (by decide) h50
  refine ⟨t',T',Gz.t0 h'.hd rfl (Gz.t0 h'.hd rfl (Gz.t1 h'.hd rfl (Gz.left g1))),g2,by rw [g3]; show 4 + k ≤ _; omega,g4,g5,g6⟩
 | 2,_ =>
  have h' : Rm L p (wd [99,104,97,114] :: (rep [sg [42]] k ++ q :: ts)) := h
  obtain ⟨t',T',g1,g2,g3,g4,g5,g6⟩ := gz_stars (d := d) (N := N) hq k (p + 1) types0 3 (.base 3) (L.length - (p + 1) + 1) h'.tl ⟨by decide,by decide,_,rfl,rfl⟩ (n0 _) (by decide) (by show 4 + k ≤ 256; omega) (lf _ h'.tl) (by decide) h50
  refine ⟨t',T',Gz.t0 h'.hd rfl (Gz.t0 h'.hd rfl (Gz.t0 h'.hd rfl (Gz.t1 h'.hd rfl (Gz.left g1)))),g2,by rw [g3]; show 4 + k ≤ _; omega,g4,g5,g6⟩
 | 3,_ =>
  have h' : Rm L p (wd [115,116,114,117,99,116] :: nm [115] :: (rep [sg [42]] k ++ q :: ts)) := h
  have hx : ∀ y ∈ types0,y ≠ (⟨6,0,0,[115]⟩ : Typ) := by decide
  obtain ⟨t',T',g1,g2,g3,g4,g5,g6⟩ := gz_stars (d := d) (N := N) hq k (p + 1 + 1) (types0 ++ [⟨6,0,0,[115]⟩]) 4 (.str [115]) (L.length - (p + 1 + 1) + 1) h'.tl.tl ⟨by decide,_,rfl,rfl,rfl⟩ (fun y hy hk => absurd hk (by revert y; decide)) (by decide) (by show 5 + k ≤ 256; omega) (lf _ h'.tl.tl) (by decide) (by decide)
  refine ⟨t',T',Gz.t0 h'.hd rfl (Gz.t0 h'.hd rfl (Gz.t0 h'.hd rfl (Gz.t0 h'.hd rfl (Gz.b (Gz.must h'.hd rfl) (Gz.b (Gz.kind h'.tl.hd rfl) (Gz.b (Gz.typed hx (by decide)) (Gz.left g1))))))),g2,by rw [g3]; show 5 + k ≤ _; omega,g4,(List.prefix_append _ _).trans g5,g6⟩
def atok (n : Nat) : List Tok := if n = 0 then [] else [sg [91],⟨3,Lib.itoa n,(n : Int),0⟩,sg [93]]
def aty (X : TyX) (n : Nat) : TyX := if n = 0 then X else .arr X n
def vtok (b k n : Nat) : List Tok := btok b ++ (rep [sg [42]] k ++ nm [120] :: (atok n ++ [sg [59],fin0]))
theorem parse_types {b k n : Nat} (hb : b < 4) (hk : k ≤ 20) (h : Rm L 0 (vtok b k n)) : ∃ x T y,parse L = (⟨[x,itemN x.at_ 0 (-1)],T,1⟩,0,0) ∧ x.kind = 52 ∧ x.type_ = y ∧ RepT T (aty (Nat.rec (bty b) (fun _ Y => .ptr Y) k) n) y ∧ T.length ≤ 256 ∧ (aty (Nat.rec (bty b) (fun _ Y => .ptr Y) k) n).deep ≤ T.length ∧ types0 <+: T := by
 obtain ⟨t',T',g1,g2,g3,g4,g5,g6⟩ := gz_baseX (L := L) (p := 0) (d := 0) (N := []) hb hk (q := nm [120]) rfl h
 have hst : ∀ (l ts : List Tok) (p : Nat),Rm L p (l ++ ts) → Rm L (p + l.length) ts := fun l => by
  induction l with
  | nil => intro ts p h; exact h
  | cons t l ih =>
   intro ts p h
   have := ih ts (p + 1) (Rm.tl h)
   rw [List.length_cons,show p + (l.length + 1) = p + 1 + l.length by omega]; exact this
 have h1 := hst _ _ _ h
 have h2 := hst _ _ _ h1
 rw [rep_len,List.length_singleton,Nat.mul_one] at h2
 have h3 := hst _ _ _ h2.tl
 generalize hp : 0 + (btok b).length + k = p at *
 have g0 : ∃ t,L[0]? = some t ∧ t.kind = 2 ∧ (structZ (first L) = true → False) := by
  match b,hb with
  | 0,_ => exact ⟨_,Rm.hd h,rfl,by unfold structZ; rw [(show Is (first L) 0 [] types0 0 from ⟨rfl,rfl,rfl,rfl,rfl⟩).isZ (Rm.hd h)]; exact Bool.false_ne_true⟩
  | 1,_ => exact ⟨_,Rm.hd h,rfl,by unfold structZ; rw [(show Is (first L) 0 [] types0 0 from ⟨rfl,rfl,rfl,rfl,rfl⟩).isZ (Rm.hd h)]; exact Bool.false_ne_true⟩
  | 2,_ => exact ⟨_,Rm.hd h,rfl,by unfold structZ; rw [(show Is (first L) 0 [] types0 0 from ⟨rfl,rfl,rfl,rfl,rfl⟩).isZ (Rm.hd h)]; exact Bool.false_ne_true⟩
  | 3,_ =>
   refine ⟨_,Rm.hd h,rfl,fun hh => ?_⟩
   have hq : ∃ q,L[2]? = some q ∧ q.text ≠ [123] := by
    have h' : Rm L 0 (wd [115,116,114,117,99,116] :: nm [115] :: (rep [sg [42]] k ++ nm [120] :: (atok n ++ [sg [59],fin0]))) := h
    cases k with
    | zero => exact ⟨_,Rm.hd (p := 2) h'.tl.tl,show ([120] : Str) ≠ [123] by decide⟩
    | succ k => exact ⟨_,Rm.hd (p := 2) (show Rm L 2 (sg [42] :: (rep [sg [42]] k ++ nm [120] :: (atok n ++ [sg [59],fin0]))) from by simpa [rep] using h'.tl.tl),show ([42] : Str) ≠ [123] by decide⟩
   obtain ⟨q,hq1,hq2⟩ := hq
   unfold structZ at hh
   have hh := (Bool.and_eq_true_iff.1 hh).2
   have hh := of_decide_eq_true hh
   rw [show (first L).at_ + 2 = 2 from rfl,List.getD_eq_getElem?_getD,hq1] at hh
   exact hq2 hh
 obtain ⟨t0,ht0,hk0,hstr⟩ := g0
 have ha : ∃ y T2,Gz (L := L) 0 (array t') (p + 1) [] T' y (p + 1 + (atok n).length) [] T2 ∧ RepT T2 (aty (Nat.rec (bty b) (fun _ Y => .ptr Y) k) n) y ∧ T2.length ≤ 256 ∧ (aty (Nat.rec (bty b) (fun _ Y => .ptr Y) k) n).deep ≤ T2.length ∧ types0 <+: T2 := by
  unfold array
  by_cases hn : n = 0
  ·subst hn
   exact ⟨t',T',Gz.t0 h2.tl.hd rfl (Gz.pu _),g2,by omega,g4,g5⟩
  ·have h4 : Rm L (p + 1) (sg [91] :: ⟨3,Lib.itoa n,(n : Int),0⟩ :: sg [93] :: [sg [59],fin0]) := by
    have := h2.tl
    unfold atok at this
    rw [if_neg hn] at this
    exact this
   have l1 : (atok n).length = 3 := by unfold atok; rw [if_neg hn]; rfl
   have hx : ∀ y ∈ T',y ≠ (⟨5,t',(n : Int),[]⟩ : Typ) := fun y hy e => g6 y hy (by rw [e])
   refine ⟨((T'.length : Nat) : Int),T' ++ [⟨5,t',(n : Int),[]⟩],?_,?_,by simp; omega,?_,g5.trans (List.prefix_append _ _)⟩
   ·rw [l1]
    exact Gz.t1 h4.hd rfl (Gz.b (Gz.kind h4.tl.hd rfl) (Gz.b (Gz.must h4.tl.tl.hd rfl) (Gz.typed hx (by omega))))
   ·unfold aty
    rw [if_neg hn]
    exact ⟨Int.natCast_nonneg _,⟨5,t',(n : Int),[]⟩,by simp,rfl,rfl,g2.mono (List.prefix_append _ _)⟩
   ·unfold aty
    rw [if_neg hn]
    simp only [TyX.deep,List.length_append,List.length_singleton]; omega
 obtain ⟨y,T2,a1,a2,a3,a4,a5⟩ := ha
 have key : Gz (L := L) 0 whole 0 [] types0 1 (p + 1 + (atok n).length + 1) [{ node 52 t0.at_ with text := [120],type_ := y },itemN t0.at_ 0 (-1)] T2 := by
  unfold whole
  refine Gz.left ?_
  have hl : 1 ≤ L.length - 0 := by have := lt_of ht0; omega
  obtain ⟨f,hf⟩ : ∃ f,L.length - 0 + 2 = f + 1 + 1 := ⟨L.length,by omega⟩
  rw [hf]
  have top1 : Gz (L := L) 0 (top 101) 0 [] types0 ((0 : Nat) : Int) (p + 1 + (atok n).length + 1) [{ node 52 t0.at_ with text := [120],type_ := y }] T2 := by
   unfold top
   refine Gz.now ht0 (Gz.get fun s hs => ?_)
   have hst2 : ¬ structZ s = true := fun hh => hstr (by
    have e1 : structZ s = structZ (first L) := by
     unfold structZ
     rw [hs.isZ ht0,(show Is (first L) 0 [] types0 0 from ⟨rfl,rfl,rfl,rfl,rfl⟩).isZ ht0,hs.at_]
     rfl
    rw [← e1]; exact hh)
   refine Gz.i0 hst2 ?_
   unfold param
   refine Gz.b (Gz.now ht0 (g1.b ((Gz.kind h2.hd rfl).b (Gz.pu _)))) ?_
   have hq : ∀ x : Str,x = [40] → ∃ t,L[p + 1]? = some t ∧ ((decide (t.kind = 4) || decide (t.kind = 2)) && decide (t.text = x)) = false := fun x hx => by
    subst hx
    by_cases hn : n = 0
    ·exact ⟨_,Rm.hd (show Rm L (p + 1) (sg [59] :: [fin0]) from by have := h2.tl; unfold atok at this; rw [if_pos hn] at this; exact this),rfl⟩
    ·exact ⟨_,Rm.hd (show Rm L (p + 1) (sg [91] :: ⟨3,Lib.itoa n,(n : Int),0⟩ :: sg [93] :: [sg [59],fin0]) from by have := h2.tl; unfold atok at this; rw [if_neg hn] at this; exact this),rfl⟩
   obtain ⟨q,hq1,hq2⟩ := hq _ rfl
   refine Gz.t0 hq1 hq2 (Gz.b a1 ?_)
   refine Gz.t0 h3.hd rfl (Gz.b (Gz.must h3.hd rfl) ?_)
   exact Gz.put (by decide)
  refine Gz.b (a := [0]) (p' := p + 1 + (atok n).length + 1) (N' := [{ node 52 t0.at_ with text := [120],type_ := y }]) (T' := T2) (topsL_step ht0 (by rw [hk0]; decide) top1 ?_) ?_
  ·unfold topsL
   exact Gz.get fun s hs => Gz.i1 hs.e (Gz.now h3.tl.hd (Gz.i1 rfl (Gz.pu _)))
  ·exact Gz.list [0] (show 1 + 1 ≤ 8192 by decide)
 refine ⟨{ node 52 t0.at_ with text := [120],type_ := y },T2,y,?_,rfl,rfl,a2,a3,a4,a5⟩
 have k1 := key (first L) ⟨rfl,rfl,rfl,rfl,rfl⟩
 unfold parse
 simp only
 rw [if_pos k1.2.e,k1.1,k1.2.N,k1.2.T]
 rfl
end
def bstr : Nat → Str
 | 0 => [105,110,116]
 | 1 => [117,110,115,105,103,110,101,100]
 | 2 => [99,104,97,114]
 | _ => [115,116,114,117,99,116,32,115]
def behS (n : Nat) : Str := if n = 0 then [] else [91] ++ Lib.itoa n ++ [93]
def srcT (b k n : Nat) : Str := bstr b ++ Lib.repeatL [42] k ++ [32,120] ++ behS n ++ [59]
theorem itoa_len {n : Nat} (hn : n ≤ 1000000) : (Lib.itoa n).length ≤ 21 := Lib.itoa_length_le _ (by omega) (by omega)
theorem beh_len {n : Nat} (hn : n ≤ 1000000) : (behS n).length ≤ 23 := by
 have := itoa_len hn
 unfold behS
 split
 ·exact Nat.zero_le _
 ·simp only [List.length_append,List.length_cons,List.length_nil]; omega
theorem bstr_len (b : Nat) : (bstr b).length ≤ 8 := by
 unfold bstr; split <;> decide
theorem sd_star (v : Str) : Sc.Sd [42] [sg [42]] ([42] ++ v) := Sc.Sd.sgn rfl (Sc.stop_ch rfl (by decide))
theorem sd_stars : ∀ (k : Nat) {c : UInt8} {v : Str},(∀ y ∈ Sc.signs,¬ ([42] ++ [c]) <+: y) → Sc.Sd (Lib.repeatL [42] k) (rep [sg [42]] k) (c :: v)
 | 0,c,v,_ => Sc.Sd.nil
 | 1,c,v,h => (Sc.Sd.sgn (x := [42]) rfl (Sc.stop_ch rfl h)).app Sc.Sd.nil
 | k + 2,c,v,h => Sc.Sd.app (u := [42]) (u' := Lib.repeatL [42] (k + 1)) (ts := [sg [42]]) (ts' := rep [sg [42]] (k + 1)) (by
   show Sc.Sd [42] [sg [42]] (([42] ++ Lib.repeatL [42] k) ++ c :: v)
   rw [List.append_assoc]; exact sd_star _) (sd_stars (k + 1) h)
theorem scan_types {b k n : Nat} (hb : b < 4) (hk : k ≤ 20) (hn : n ≤ 1000000) : ∃ l,Law.scanA (srcT b k n) = .ok l ∧ Rm l 0 (vtok b k n) := by
 have hstar : ∀ y ∈ Sc.signs,¬ ([42] ++ [(32 : UInt8)]) <+: y := by decide
 have h1 : Sc.Sd (srcT b k n) (btok b ++ (rep [sg [42]] k ++ nm [120] :: (atok n ++ [sg [59]]))) [] := by
  unfold srcT
  rw [List.append_assoc,List.append_assoc,List.append_assoc]
  have hB : Sc.Brk (Lib.repeatL [42] k ++ ([32,120] ++ (behS n ++ [59])) ++ []) := by
   cases k with
   | zero => exact brk (c := 32) rfl
   | succ k => exact brk (c := 42) rfl
  have h2 : Sc.Sd (bstr b) (btok b) (Lib.repeatL [42] k ++ ([32,120] ++ (behS n ++ [59])) ++ []) := by
   match b,hb with
   | 0,_ => exact Sd.kw rfl (by decide) hB
   | 1,_ => exact Sd.kw rfl (by decide) hB
   | 2,_ => exact Sd.kw rfl (by decide) hB
   | 3,_ => exact (Sd.kw (x := [115,116,114,117,99,116]) rfl (by decide) (brk rfl)).app ((Sc.Sd.ws (c := 32) rfl).app (Sd.idn (x := [115]) rfl (by decide) hB))
  refine h2.app (Sc.Sd.app (u' := [32,120] ++ (behS n ++ [59])) (sd_stars k hstar) ?_)
  have h3 : Sc.Sd (behS n) (atok n) ([59] ++ []) := by
   unfold behS atok
   split
   ·exact Sc.Sd.nil
   ·rw [List.append_assoc]
    exact (sd_end (x := [91]) rfl (by decide)).app ((sd_num (by omega) (brk rfl)).app (sd_end (x := [93]) rfl (by decide)))
  have hB2 : Sc.Brk ((behS n ++ [59]) ++ []) := by
   unfold behS
   split
   ·exact brk (c := 59) rfl
   ·exact brk (c := 91) rfl
  exact (Sc.Sd.ws (c := 32) rfl).app (ts' := nm [120] :: (atok n ++ [sg [59]])) ((Sd.idn (x := [120]) rfl (by decide) hB2).app (h3.app (sd_end (x := [59]) rfl (by decide))))
 have h2 := h1.all
 have l1 : (btok b).length ≤ 2 := by unfold btok; split <;> decide
 have l2 : (atok n).length ≤ 3 := by
  unfold atok
  split
  ·exact Nat.zero_le _
  ·exact Nat.le_refl _
 rw [if_pos (by simp only [List.length_append,rep_len,List.length_cons,List.length_nil]; omega)] at h2
 obtain ⟨l,hl,hs⟩ := Sc.strip_ok h2
 refine ⟨l,?_,?_⟩
 ·unfold Law.scanA
  rw [if_neg ?_,hl]
  have := bstr_len b
  have := beh_len hn
  unfold srcT
  simp only [List.length_append,Lib.repeatL_length,List.length_cons,List.length_nil]
  omega
 ·unfold Rm vtok
  rw [List.drop_zero,hs]
  simp [fin0]
theorem pr_ptr : ∀ (k : Nat) (X : TyX) (out : Str),prT (Nat.rec X (fun _ Y => .ptr Y) k) out = prT X (Lib.repeatL [42] k ++ out)
 | 0,X,out => rfl
 | k + 1,X,out => by
  show prT (Nat.rec X (fun _ Y => .ptr Y) k) ([42] ++ out) = _
  rw [pr_ptr k,← List.append_assoc]
  congr 2
  have h1 := Lib.repeatL_add [42] k 1
  rw [Lib.repeatL_one] at h1
  exact h1.symm
theorem pr_b {b : Nat} (hb : b < 4) (out : Str) : prT (bty b) out = bstr b ++ out := by
 match b,hb with
 | 0,_ => rfl
 | 1,_ => rfl
 | 2,_ => rfl
 | 3,_ => rfl
theorem pr_a {b : Nat} (hb : b < 4) (k n : Nat) : prT (aty (Nat.rec (bty b) (fun _ Y => .ptr Y) k) n) [] = bstr b ++ Lib.repeatL [42] k ++ behS n := by
 unfold aty behS
 split
 ·rw [pr_ptr,pr_b hb,List.append_nil,List.append_nil]
 ·unfold prT
  rw [pr_ptr,pr_b hb,List.append_nil]
  simp only [List.append_assoc]
theorem nums_a {b k n : Nat} (hn : n ≤ 1000000) : (aty (Nat.rec (bty b) (fun _ Y => .ptr Y) k) n).nums := by
 have h1 : ∀ k : Nat,(Nat.rec (bty b) (fun _ Y => .ptr Y) k : TyX).nums := fun k => by
  induction k with
  | zero => unfold bty; split <;> trivial
  | succ k ih => exact ih
 unfold aty
 split
 ·exact h1 k
 ·exact ⟨⟨by omega,by omega⟩,h1 k⟩
theorem types_8 {b k n : Nat} (hb : b < 4) (hk : k ≤ 20) (hn : n ≤ 1000000) : Tryz.m4_8 (bstr b) (Lib.repeatL [42] k) (behS n) = some ((true,()),()) := by
 obtain ⟨l,hs,hr⟩ := scan_types hb hk hn
 obtain ⟨x,T,y,hp,hk52,hty,hrep,hT,hd,hpre⟩ := parse_types hb hk hr
 have hread : read (srcT b k n) = (⟨[x,itemN x.at_ 0 (-1)],T,1⟩,0,0) := by
  unfold read; rw [hs]; exact hp
 have lb := bstr_len b
 have lh := beh_len hn
 have lk : (Lib.repeatL [42] k).length = k * 1 := Lib.repeatL_length _ _
 have hT4 : 4 ≤ T.length := hpre.length_le
 generalize ht : (⟨[x,itemN x.at_ 0 (-1)],T,1⟩ : Tre) = t at *
 have tn : t.nodes = [x,itemN x.at_ 0 (-1)] := by rw [← ht]
 have tT : t.types = T := by rw [← ht]
 have tt : t.top = 1 := by rw [← ht]
 have v1 : Tryz.m8 t 1 = some (([(0 : Int)],()),()) := by
  have h := list_is (t := t) (by rw [tn]; show 2 ≤ 8192; decide) (N := [x]) (l := [0]) (by rw [tn]; exact List.prefix_refl _)
  exact h
 have v2 : Tryz.m11 t y = some ((bstr b ++ Lib.repeatL [42] k ++ behS n,()),()) := by
  have h := text_all (tr := t) (by rw [tT]; exact hT) (by rw [tT]; exact hrep) (nums_a hn) (by rw [tT]; exact hd) (by rw [pr_a hb]; simp only [List.length_append]; omega)
  rw [pr_a hb] at h
  exact h
 have v3 : Tryz.m11 t (-1) = some (([],()),()) := text_out t (by rw [tT]; omega) _ (.inl (by decide))
 have v4 : Tryz.m11 t (I t.types.length) = some (([],()),()) := text_out t (by rw [tT]; omega) _ (.inr (Int.le_refl _))
 have v5 : Tryz.m11 t 0 = some (([118,111,105,100],()),()) := text_all (tr := t) (t := .base 0) (by rw [tT]; exact hT) (by rw [tT]; exact RepT.mono hpre (t := .base 0) (i := 0) ⟨by decide,by decide,_,rfl,rfl⟩) trivial (by rw [tT]; show 1 ≤ _; omega) (by decide)
 rw [Tryz.m4_8_eq]
 refine (if_pos (decide_eq_true (show (bstr b).length + (Lib.repeatL [42] k).length ≤ 9223372036854775807 by omega))).trans ?_
 refine (if_pos (decide_eq_true (show (bstr b ++ Lib.repeatL [42] k).length + 2 ≤ 9223372036854775807 by rw [List.length_append]; omega))).trans ?_
 refine (if_pos (decide_eq_true (show (bstr b ++ Lib.repeatL [42] k ++ [32,120]).length + (behS n).length ≤ 9223372036854775807 by rw [List.length_append,List.length_append]; show _ + 2 + _ ≤ _; omega))).trans ?_
 refine (if_pos (decide_eq_true (show (bstr b ++ Lib.repeatL [42] k ++ [32,120] ++ behS n).length + 1 ≤ 9223372036854775807 by rw [List.length_append,List.length_append,List.length_append]; show _ + 2 + _ + 1 ≤ _; omega))).trans ?_
 refine (ob ((r_read (srcT b k n)).trans (congrArg (fun x => some (enc3 x)) hread))).trans ?_
 have ee : (enc3 (t,0,0)).fst.fst = t := rfl
 rw [ee,tt]
 refine (ob v1).trans ?_
 refine (if_neg (show ¬ (!decide ((0 : Int) = 0)) = true by decide)).trans ?_
 refine (if_neg (show ¬ (!decide (I ([0] : List Int).length = 1)) = true by decide)).trans ?_
 refine (if_pos (decide_eq_true (show (0 : Int) ≤ 0 ∧ (0 : Int) < I ([0] : List Int).length by decide))).trans ?_
 refine (if_pos (decide_eq_true (show Int.toNat 0 < ([0] : List Int).length by decide))).trans ?_
 have e0 : (([0] : List Int).getD (Int.toNat 0) 0) = 0 := rfl
 have e1 : t.nodes.getD (Int.toNat 0) d5 = x := by rw [tn]; rfl
 have e2 : (0 : Int) ≤ 0 ∧ (0 : Int) < I t.nodes.length := by rw [tn]; exact ⟨by decide,by show (0 : Int) < I 2; decide⟩
 rw [e0,e1,hty]
 refine (if_pos (decide_eq_true e2)).trans ?_
 refine (if_neg (show ¬ (!decide (x.kind = 52)) = true by rw [decide_eq_true hk52]; decide)).trans ?_
 refine (if_pos (decide_eq_true (show (0 : Int) ≤ 0 ∧ (0 : Int) < I ([0] : List Int).length by decide))).trans ?_
 refine (if_pos (decide_eq_true (show Int.toNat 0 < ([0] : List Int).length by decide))).trans ?_
 refine (if_pos (decide_eq_true e2)).trans ?_
 refine (ob v2).trans ?_
 refine (if_pos (decide_eq_true (show (bstr b).length + (Lib.repeatL [42] k).length ≤ 9223372036854775807 by omega))).trans ?_
 refine (if_pos (decide_eq_true (show (bstr b ++ Lib.repeatL [42] k).length + (behS n).length ≤ 9223372036854775807 by rw [List.length_append]; omega))).trans ?_
 refine (if_pos (decide_eq_true rfl)).trans ?_
 refine (ob v3).trans ?_
 refine (if_pos (decide_eq_true rfl)).trans ?_
 refine (ob v4).trans ?_
 refine (if_pos (decide_eq_true rfl)).trans ?_
 refine (ob v5).trans ?_
 refine (if_pos (decide_eq_true rfl)).trans ?_
 exact (ob awake_v).trans rfl
theorem types_law (a b n : Int) (ha : 0 ≤ a ∧ a ≤ 255) (hb : 0 ≤ b ∧ b ≤ 255) : Tryz.m4 a b n = some ((true,()),()) := by
 rw [Tryz.m4_eq]
 by_cases h1 : n < 0
 ·refine (if_pos (decide_eq_true h1)).trans ?_
  exact (ob awake_v).trans rfl
 refine (if_neg (show ¬ decide (n < 0) = true by rw [decide_eq_false h1]; decide)).trans ?_
 by_cases h2 : 1000000 < n
 ·refine (if_pos (decide_eq_true h2)).trans ?_
  exact (ob awake_v).trans rfl
 refine (if_neg (show ¬ decide (1000000 < n) = true by rw [decide_eq_false h2]; decide)).trans ?_
 have hm0 : 0 ≤ a.tmod 4 ∧ a.tmod 4 < 4 := ⟨Int.tmod_nonneg 4 ha.1,Int.tmod_lt_of_pos a (by decide)⟩
 have hn0 : 0 ≤ b.tmod 20 ∧ b.tmod 20 < 20 := ⟨Int.tmod_nonneg 20 hb.1,Int.tmod_lt_of_pos b (by decide)⟩
 obtain ⟨q,hq⟩ := Int.eq_ofNat_of_zero_le hm0.1
 obtain ⟨k,hk⟩ := Int.eq_ofNat_of_zero_le hn0.1
 obtain ⟨m,hm⟩ := Int.eq_ofNat_of_zero_le (Int.not_lt.1 h1)
 rw [hq,hk,hm]
 have hq4 : q < 4 := by omega
 have hk20 : k ≤ 20 := by omega
 have hm6 : m ≤ 1000000 := by omega
 have key := types_8 (b := q) (k := k) (n := m) hq4 hk20 hm6
 refine (if_pos (decide_eq_true (by decide))).trans ?_
 refine (if_pos (decide_eq_true (show (0 : Int) ≤ (q : Nat) ∧ ((q : Nat) : Int) < I 4 by simp only [I]; omega))).trans ?_
 refine (if_pos (decide_eq_true (show q < 4 from hq4))).trans ?_
 refine (if_pos (inR_of (by omega) (by omega))).trans ?_
 refine (if_pos (decide_eq_true (by decide))).trans ?_
 refine (if_pos (decide_eq_true (show (0 : Int) ≤ (k : Nat) ∧ ((k : Nat) : Int) ≤ 1000000 ∧ (1 : Nat) ≤ 1000000 by omega))).trans ?_
 have eb : ([[105,110,116],[117,110,115,105,103,110,101,100],[99,104,97,114],[115,116,114,117,99,116,32,115]] : List Str).getD q [] = bstr q := by
  match q,hq4 with
  | 0,_ => rfl
  | 1,_ => rfl
  | 2,_ => rfl
  | 3,_ => rfl
 have li := itoa_len hm6
 by_cases h3 : 0 < ((m : Nat) : Int)
 ·refine (if_pos (decide_eq_true h3)).trans ?_
  refine (if_pos (show inI ((m : Nat) : Int) = true from decide_eq_true (by omega))).trans ?_
  refine (if_pos (decide_eq_true (show 1 + (Lib.itoa m).length ≤ 9223372036854775807 by omega))).trans ?_
  refine (if_pos (decide_eq_true (show ([91] ++ Lib.itoa m).length + 1 ≤ 9223372036854775807 by rw [List.length_append]; show 1 + _ + 1 ≤ _; omega))).trans ?_
  have e : behS m = [91] ++ Lib.itoa m ++ [93] := if_neg (by omega)
  rw [e,← eb] at key
  exact key
 ·refine (if_neg (show ¬ decide (0 < ((m : Nat) : Int)) = true by rw [decide_eq_false h3]; decide)).trans ?_
  have e : behS m = [] := if_pos (by omega)
  rw [e,← eb] at key
  exact key
end Go.Proofs.TR
