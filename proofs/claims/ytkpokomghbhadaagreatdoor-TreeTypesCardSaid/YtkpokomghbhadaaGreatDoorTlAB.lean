/- The plain parser over tokens that are known: what comes, exactly. -/
import Derived.Test.YtkpokomghbhadaaGreatDoorTrAP
import Derived.Test.YtkpokomghbhadaaGreatDoorSc
import Derived.Lib.Repeat
set_option maxRecDepth 100000
namespace Go.Proofs.TR
open Go Go.En Go.En.Dop
section
variable {L : List Tok} {p p' p2 : Nat} {N N' N2 : List Nde} {T T' T2 : List Typ} {d : Int} {α β : Type}
structure Is (s : Z L) (p : Nat) (N : List Nde) (T : List Typ) (d : Int) : Prop where
 at_ : s.at_ = p
 N : s.N = N
 T : s.T = T
 deep : s.deep = d
 e : s.e = 0
def Gz (d : Int) (f : M L α) (p : Nat) (N : List Nde) (T : List Typ) (a : α) (p' : Nat) (N' : List Nde) (T' : List Typ) : Prop := ∀ s,Is s p N T d → (f.run s).1 = a ∧ Is (f.run s).2 p' N' T' d
theorem Gz.b {m : M L α} {k : α → M L β} {a : α} {b : β} (h1 : Gz d m p N T a p' N' T') (h2 : Gz d (k a) p' N' T' b p2 N2 T2) : Gz d (m >>= k) p N T b p2 N2 T2 := fun s hs => by
 rw [run_bind]
 obtain ⟨e,hs'⟩ := h1 s hs
 rw [e]
 exact h2 _ hs'
theorem Gz.pu (a : α) : Gz d (pure a : M L α) p N T a p N T := fun _ hs => ⟨rfl,hs⟩
theorem Is.now {s : Z L} {t : Tok} (hs : Is s p N T d) (h : L[p]? = some t) : now s = t := by
 have hl := (List.getElem?_eq_some_iff.1 h).1
 unfold TR.now
 rw [if_pos ⟨hs.e,by rw [hs.at_]; exact hl⟩,hs.at_,List.getD_eq_getElem?_getD,h]
 rfl
theorem Is.bump {s : Z L} (hs : Is s p N T d) (h : p < L.length) : Is (bump s) (p + 1) N T d := by
 rw [bump_lt (by rw [hs.at_]; exact h)]
 exact ⟨by show s.at_ + 1 = _; rw [hs.at_],hs.N,hs.T,hs.deep,hs.e⟩
theorem lt_of {t : Tok} (h : L[p]? = some t) : p < L.length := (List.getElem?_eq_some_iff.1 h).1
theorem Is.isZ {s : Z L} {t : Tok} {x : Str} (hs : Is s p N T d) (h : L[p]? = some t) : TR.isZ x s = ((decide (t.kind = 4) || decide (t.kind = 2)) && decide (t.text = x)) := by
 unfold TR.isZ; rw [hs.now h]
theorem Gz.hit {t : Tok} {x : Str} (h : L[p]? = some t) (hk : ((decide (t.kind = 4) || decide (t.kind = 2)) && decide (t.text = x)) = true) : Gz (L := L) d (take x) p N T true (p + 1) N T := fun s hs => by
 have e : (take x).run s = (TR.isZ x s,if TR.isZ x s = true then TR.bump s else s) := rfl
 rw [e,hs.isZ h,hk]
 exact ⟨rfl,hs.bump (lt_of h)⟩
theorem Gz.miss {t : Tok} {x : Str} (h : L[p]? = some t) (hk : ((decide (t.kind = 4) || decide (t.kind = 2)) && decide (t.text = x)) = false) : Gz (L := L) d (take x) p N T false p N T := fun s hs => by
 have e : (take x).run s = (TR.isZ x s,if TR.isZ x s = true then TR.bump s else s) := rfl
 rw [e,hs.isZ h,hk]
 exact ⟨rfl,hs⟩
theorem Gz.i1 {c : Prop} [Decidable c] {A B : M L α} {a : α} (hc : c) (h : Gz d A p N T a p' N' T') : Gz d (if c then A else B) p N T a p' N' T' := by rw [if_pos hc]; exact h
theorem Gz.i0 {c : Prop} [Decidable c] {A B : M L α} {a : α} (hc : ¬ c) (h : Gz d B p N T a p' N' T') : Gz d (if c then A else B) p N T a p' N' T' := by rw [if_neg hc]; exact h
theorem Gz.t1 {t : Tok} {x : Str} {A B : M L α} {a : α} (h : L[p]? = some t) (hk : ((decide (t.kind = 4) || decide (t.kind = 2)) && decide (t.text = x)) = true) (hA : Gz d A (p + 1) N T a p' N' T') : Gz (L := L) d (take x >>= fun r => if r = true then A else B) p N T a p' N' T' := (Gz.hit h hk).b (Gz.i1 rfl hA)
theorem Gz.t0 {t : Tok} {x : Str} {A B : M L α} {a : α} (h : L[p]? = some t) (hk : ((decide (t.kind = 4) || decide (t.kind = 2)) && decide (t.text = x)) = false) (hB : Gz d B p N T a p' N' T') : Gz (L := L) d (take x >>= fun r => if r = true then A else B) p N T a p' N' T' := (Gz.miss h hk).b (Gz.i0 (by decide) hB)
theorem Gz.must {t : Tok} {x : Str} (h : L[p]? = some t) (hk : ((decide (t.kind = 4) || decide (t.kind = 2)) && decide (t.text = x)) = true) : Gz (L := L) d (must x) p N T () (p + 1) N T := Gz.t1 h hk (Gz.pu ())
theorem Gz.now {t : Tok} {k : Tok → M L α} {a : α} (h : L[p]? = some t) (hA : Gz d (k t) p N T a p' N' T') : Gz d (nowM >>= k) p N T a p' N' T' := fun s hs => by
 rw [run_now,hs.now h]; exact hA s hs
theorem Gz.get {k : Z L → M L α} {a : α} (hA : ∀ s,Is s p N T d → Gz d (k s) p N T a p' N' T') : Gz d (getZ >>= k) p N T a p' N' T' := fun s hs => by
 rw [run_get]; exact hA s hs s hs
theorem Gz.left {k : Nat → M L α} {a : α} (hA : Gz d (k (L.length - p)) p N T a p' N' T') : Gz d (left >>= k) p N T a p' N' T' := fun s hs => by
 have e : (TR.left >>= k).run s = (k (L.length - s.at_)).run s := rfl
 rw [e,hs.at_]; exact hA s hs
theorem Gz.bump {t : Tok} (h : L[p]? = some t) : Gz (L := L) d bumpM p N T () (p + 1) N T := fun s hs => ⟨rfl,hs.bump (lt_of h)⟩
theorem Gz.kind {t : Tok} {k : Int} (h : L[p]? = some t) (hk : t.kind = k) : Gz (L := L) d (kind k) p N T t (p + 1) N T := by
 unfold TR.kind
 exact Gz.now h (Gz.get fun s hs => Gz.i1 ⟨hk,hs.e⟩ ((Gz.bump h).b (Gz.pu t)))
theorem Gz.put {n : Nde} (hN : N.length < 8192) : Gz (L := L) d (put n) p N T ((N.length : Nat) : Int) p (N ++ [n]) T := by
 unfold TR.put
 refine Gz.get fun s hs => Gz.i0 (by rw [hs.N]; omega) fun s hs => ?_
 have e : (putM n).run s = putZ n s := rfl
 rw [e]
 unfold putZ
 rw [dif_pos ⟨hs.e,by rw [hs.N]; exact hN⟩]
 exact ⟨by show ((s.N.length : Nat) : Int) = _; rw [hs.N],hs.at_,by show s.N ++ [n] = _; rw [hs.N],hs.T,hs.deep,hs.e⟩
def itemN (a x o : Int) : Nde := { node 20 a with a := x,b := o }
def items (N : List Nde) : List Int → Int → List Nde × Int
 | [],o => (N,o)
 | x :: r,o => items (N ++ [itemN (if x < 0 then 0 else (N.getD x.toNat d5).at_) x o]) r (N.length : Nat)
theorem Gz.listL : ∀ (l : List Int) (N : List Nde) (o : Int),N.length + l.length ≤ 8192 → Gz (L := L) d (listL l o) p N T (items N l o).2 p (items N l o).1 T
 | [],N,o,_ => Gz.pu o
 | x :: r,N,o,h => by
  unfold TR.listL items
  simp only [List.length_cons] at h
  refine Gz.get fun s hs => ?_
  have e : startZ s x = (if x < 0 then 0 else (N.getD x.toNat d5).at_) := by unfold startZ; rw [hs.N]
  show Gz d (TR.put (itemN (startZ s x) x o) >>= fun o => TR.listL r o) p N T _ p _ T
  rw [e]
  exact (Gz.put (by omega)).b (Gz.listL r _ _ (by simp only [List.length_append,List.length_singleton]; omega))
theorem Gz.list (l : List Int) (h : N.length + l.length ≤ 8192) : Gz (L := L) d (list l) p N T (items N l.reverse (-1)).2 p (items N l.reverse (-1)).1 T := Gz.listL _ _ _ (by rw [List.length_reverse]; exact h)
theorem items_pre : ∀ (l : List Int) (N : List Nde) (o : Int),N <+: (items N l o).1 ∧ (items N l o).1.length = N.length + l.length
 | [],N,o => ⟨List.prefix_refl _,rfl⟩
 | x :: r,N,o => by
  obtain ⟨h1,h2⟩ := items_pre r (N ++ [itemN (if x < 0 then 0 else (N.getD x.toNat d5).at_) x o]) (N.length : Nat)
  refine ⟨(List.prefix_append _ _).trans h1,?_⟩
  have e1 : (x :: r).length = r.length + 1 := rfl
  have e2 : (N ++ [itemN (if x < 0 then 0 else (N.getD x.toNat d5).at_) x o]).length = N.length + 1 := by rw [List.length_append]; rfl
  unfold items
  omega
end
end Go.Proofs.TR
/- Sources of many globals and statements: the tokens, the tree. -/
set_option maxRecDepth 100000
namespace Go.Proofs.TR
open Go Go.En Go.En.Dop
section
variable {L : List Tok} {p p' : Nat} {N N' : List Nde} {T T' : List Typ} {d : Int}
def Rm (L : List Tok) (p : Nat) (ts : List Tok) : Prop := (L.drop p).map Sc.strip = ts
def psAt (L : List Tok) (p : Nat) : Int := (L.getD p d4).at_
theorem Rm.hd {k n : Int} {x : Str} {q : Int} {ts : List Tok} (h : Rm L p (⟨k,x,n,q⟩ :: ts)) : L[p]? = some ⟨k,x,n,psAt L p⟩ := by
 unfold Rm at h
 cases hd : L.drop p with
 | nil => rw [hd] at h; cases h
 | cons t r =>
  rw [hd] at h
  have e : L[p]? = some t := by
   have := congrArg (fun l => l[0]?) hd
   simpa using this
  simp only [List.map_cons,List.cons.injEq,Sc.strip] at h
  obtain ⟨h1,_⟩ := h
  cases h1
  rw [e]
  unfold psAt
  rw [List.getD_eq_getElem?_getD,e]
  rfl
theorem Rm.tl {t : Tok} {ts : List Tok} (h : Rm L p (t :: ts)) : Rm L (p + 1) ts := by
 unfold Rm at h ⊢
 have := congrArg List.tail h
 rw [← List.map_tail,List.tail_drop] at this
 exact this
def wd (x : Str) : Tok := ⟨2,x,0,0⟩
def nm (x : Str) : Tok := ⟨1,x,0,0⟩
def sg (x : Str) : Tok := ⟨4,x,0,0⟩
def fin0 : Tok := ⟨0,[],0,0⟩
def rep (ts : List Tok) : Nat → List Tok
 | 0 => []
 | k + 1 => ts ++ rep ts k
theorem topsL_step {f : Nat} {l : List Int} {x : Int} {r : List Int} {t : Tok} {p2 : Nat} {N2 : List Nde} {T2 : List Typ} (h0 : L[p]? = some t) (ht : t.kind ≠ 0) (h : Gz (L := L) d (top 101) p N T x p2 N2 T2) (hr : Gz (L := L) d (topsL 101 f (l ++ [x])) p2 N2 T2 r p' N' T') : Gz (L := L) d (topsL 101 (f + 1) l) p N T r p' N' T' := by
 unfold topsL
 exact Gz.get fun s hs => Gz.i1 hs.e (Gz.now h0 (Gz.i0 ht (h.b hr)))
end
end Go.Proofs.TR
