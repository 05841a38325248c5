/- The plain parser over tokens that are known: what comes, exactly. -/
import Derived.Test.YtkpokomghbhadaaGreatDoorTrAP
import Derived.Test.YtkpokomghbhadaaGreatDoorSc
import Derived.Lib.Repeat
import Derived.Test.YtkpokomghbhadaaGreatDoorTrM
import Derived.Test.YtkpokomghbhadaaGreatDoorLfD
set_option maxRecDepth 100000
namespace Go.Proofs.TR
open Go Go.En Go.En.Dop
section
variable {L : List Tok} {p p' p2 : Nat} {N N' N2 : List Nde} {T T' T2 : List Typ} {d : Int} {α β : Type}
structure Is (s : Z L) (p : Nat) (N : List Nde) (T : List Typ) (d : Int) : Prop where
 at_ : s.at_ = p
 N : s.N = N
 T : s.T = T
 deep : s.deep = d
 e : s.e = 0
def Gz (d : Int) (f : M L α) (p : Nat) (N : List Nde) (T : List Typ) (a : α) (p' : Nat) (N' : List Nde) (T' : List Typ) : Prop := ∀ s,Is s p N T d → (f.run s).1 = a ∧ Is (f.run s).2 p' N' T' d
theorem Gz.b {m : M L α} {k : α → M L β} {a : α} {b : β} (h1 : Gz d m p N T a p' N' T') (h2 : Gz d (k a) p' N' T' b p2 N2 T2) : Gz d (m >>= k) p N T b p2 N2 T2 := fun s hs => by
 rw [run_bind]
 obtain ⟨e,hs'⟩ := h1 s hs
 rw [e]
 exact h2 _ hs'
theorem Gz.pu (a : α) : Gz d (pure a : M L α) p N T a p N T := fun _ hs => ⟨rfl,hs⟩
theorem Is.now {s : Z L} {t : Tok} (hs : Is s p N T d) (h : L[p]? = some t) : now s = t := by
 have hl := (List.getElem?_eq_some_iff.1 h).1
 unfold TR.now
 rw [if_pos ⟨hs.e,by rw [hs.at_]; exact hl⟩,hs.at_,List.getD_eq_getElem?_getD,h]
 rfl
theorem Is.bump {s : Z L} (hs : Is s p N T d) (h : p < L.length) : Is (bump s) (p + 1) N T d := by
 rw [bump_lt (by rw [hs.at_]; exact h)]
 exact ⟨by show s.at_ + 1 = _; rw [hs.at_],hs.N,hs.T,hs.deep,hs.e⟩
theorem lt_of {t : Tok} (h : L[p]? = some t) : p < L.length := (List.getElem?_eq_some_iff.1 h).1
theorem Is.isZ {s : Z L} {t : Tok} {x : Str} (hs : Is s p N T d) (h : L[p]? = some t) : TR.isZ x s = ((decide (t.kind = 4) || decide (t.kind = 2)) && decide (t.text = x)) := by
 unfold TR.isZ; rw [hs.now h]
theorem Gz.hit {t : Tok} {x : Str} (h : L[p]? = some t) (hk : ((decide (t.kind = 4) || decide (t.kind = 2)) && decide (t.text = x)) = true) : Gz (L := L) d (take x) p N T true (p + 1) N T := fun s hs => by
 have e : (take x).run s = (TR.isZ x s,if TR.isZ x s = true then TR.bump s else s) := rfl
 rw [e,hs.isZ h,hk]
 exact ⟨rfl,hs.bump (lt_of h)⟩
theorem Gz.miss {t : Tok} {x : Str} (h : L[p]? = some t) (hk : ((decide (t.kind = 4) || decide (t.kind = 2)) && decide (t.text = x)) = false) : Gz (L := L) d (take x) p N T false p N T := fun s hs => by
 have e : (take x).run s = (TR.isZ x s,if TR.isZ x s = true then TR.bump s else s) := rfl
 rw [e,hs.isZ h,hk]
 exact ⟨rfl,hs⟩
theorem Gz.is {t : Tok} {x : Str} {b : Bool} (h : L[p]? = some t) (hk : ((decide (t.kind = 4) || decide (t.kind = 2)) && decide (t.text = x)) = b) : Gz (L := L) d (is x) p N T b p N T := fun s hs => ⟨(hs.isZ h).trans hk,hs⟩
theorem Gz.i1 {c : Prop} [Decidable c] {A B : M L α} {a : α} (hc : c) (h : Gz d A p N T a p' N' T') : Gz d (if c then A else B) p N T a p' N' T' := by rw [if_pos hc]; exact h
theorem Gz.i0 {c : Prop} [Decidable c] {A B : M L α} {a : α} (hc : ¬ c) (h : Gz d B p N T a p' N' T') : Gz d (if c then A else B) p N T a p' N' T' := by rw [if_neg hc]; exact h
theorem Gz.t1 {t : Tok} {x : Str} {A B : M L α} {a : α} (h : L[p]? = some t) (hk : ((decide (t.kind = 4) || decide (t.kind = 2)) && decide (t.text = x)) = true) (hA : Gz d A (p + 1) N T a p' N' T') : Gz (L := L) d (take x >>= fun r => if r = true then A else B) p N T a p' N' T' := (Gz.hit h hk).b (Gz.i1 rfl hA)
theorem Gz.t0 {t : Tok} {x : Str} {A B : M L α} {a : α} (h : L[p]? = some t) (hk : ((decide (t.kind = 4) || decide (t.kind = 2)) && decide (t.text = x)) = false) (hB : Gz d B p N T a p' N' T') : Gz (L := L) d (take x >>= fun r => if r = true then A else B) p N T a p' N' T' := (Gz.miss h hk).b (Gz.i0 (by decide) hB)
theorem Gz.must {t : Tok} {x : Str} (h : L[p]? = some t) (hk : ((decide (t.kind = 4) || decide (t.kind = 2)) && decide (t.text = x)) = true) : Gz (L := L) d (must x) p N T () (p + 1) N T := Gz.t1 h hk (Gz.pu ())
theorem Gz.now {t : Tok} {k : Tok → M L α} {a : α} (h : L[p]? = some t) (hA : Gz d (k t) p N T a p' N' T') : Gz d (nowM >>= k) p N T a p' N' T' := fun s hs => by
 rw [run_now,hs.now h]; exact hA s hs
theorem Gz.get {k : Z L → M L α} {a : α} (hA : ∀ s,Is s p N T d → Gz d (k s) p N T a p' N' T') : Gz d (getZ >>= k) p N T a p' N' T' := fun s hs => by
 rw [run_get]; exact hA s hs s hs
theorem Gz.left {k : Nat → M L α} {a : α} (hA : Gz d (k (L.length - p)) p N T a p' N' T') : Gz d (left >>= k) p N T a p' N' T' := fun s hs => by
 have e : (TR.left >>= k).run s = (k (L.length - s.at_)).run s := rfl
 rw [e,hs.at_]; exact hA s hs
theorem Gz.bump {t : Tok} (h : L[p]? = some t) : Gz (L := L) d bumpM p N T () (p + 1) N T := fun s hs => ⟨rfl,hs.bump (lt_of h)⟩
theorem Gz.kind {t : Tok} {k : Int} (h : L[p]? = some t) (hk : t.kind = k) : Gz (L := L) d (kind k) p N T t (p + 1) N T := by
 unfold TR.kind
 exact Gz.now h (Gz.get fun s hs => Gz.i1 ⟨hk,hs.e⟩ ((Gz.bump h).b (Gz.pu t)))
theorem Gz.put {n : Nde} (hN : N.length < 8192) : Gz (L := L) d (put n) p N T ((N.length : Nat) : Int) p (N ++ [n]) T := by
 unfold TR.put
 refine Gz.get fun s hs => Gz.i0 (by rw [hs.N]; omega) fun s hs => ?_
 have e : (putM n).run s = putZ n s := rfl
 rw [e]
 unfold putZ
 rw [dif_pos ⟨hs.e,by rw [hs.N]; exact hN⟩]
 exact ⟨by show ((s.N.length : Nat) : Int) = _; rw [hs.N],hs.at_,by show s.N ++ [n] = _; rw [hs.N],hs.T,hs.deep,hs.e⟩
theorem Gz.within {f : M L Int} {a : Int} (hd : d < 100) (h : Gz (d + 1) f p N T a p' N' T') : Gz d (within f) p N T a p' N' T' := fun s hs => by
 have e1 : downZ s = deepZ s (s.deep + 1) := by unfold downZ; rw [if_neg (by rw [hs.deep]; omega)]
 have r1 : (TR.within f).run s = ((f.run (downZ s)).1,deepZ (f.run (downZ s)).2 ((f.run (downZ s)).2.deep - 1)) := if_pos (by rw [e1]; exact hs.e)
 rw [r1]
 have h1 := h (downZ s) (by rw [e1]; exact ⟨hs.at_,hs.N,hs.T,by show s.deep + 1 = _; rw [hs.deep],hs.e⟩)
 exact ⟨h1.1,h1.2.at_,h1.2.N,h1.2.T,by show _ - 1 = d; rw [h1.2.deep]; omega,h1.2.e⟩
def itemN (a x o : Int) : Nde := { node 20 a with a := x,b := o }
def items (N : List Nde) : List Int → Int → List Nde × Int
 | [],o => (N,o)
 | x :: r,o => items (N ++ [itemN (if x < 0 then 0 else (N.getD x.toNat d5).at_) x o]) r (N.length : Nat)
theorem Gz.listL : ∀ (l : List Int) (N : List Nde) (o : Int),N.length + l.length ≤ 8192 → Gz (L := L) d (listL l o) p N T (items N l o).2 p (items N l o).1 T
 | [],N,o,_ => Gz.pu o
 | x :: r,N,o,h => by
  unfold TR.listL items
  simp only [List.length_cons] at h
  refine Gz.get fun s hs => ?_
  have e : startZ s x = (if x < 0 then 0 else (N.getD x.toNat d5).at_) := by unfold startZ; rw [hs.N]
  show Gz d (TR.put (itemN (startZ s x) x o) >>= fun o => TR.listL r o) p N T _ p _ T
  rw [e]
  exact (Gz.put (by omega)).b (Gz.listL r _ _ (by simp only [List.length_append,List.length_singleton]; omega))
theorem Gz.list (l : List Int) (h : N.length + l.length ≤ 8192) : Gz (L := L) d (list l) p N T (items N l.reverse (-1)).2 p (items N l.reverse (-1)).1 T := Gz.listL _ _ _ (by rw [List.length_reverse]; exact h)
theorem items_pre : ∀ (l : List Int) (N : List Nde) (o : Int),N <+: (items N l o).1 ∧ (items N l o).1.length = N.length + l.length
 | [],N,o => ⟨List.prefix_refl _,rfl⟩
 | x :: r,N,o => by
  obtain ⟨h1,h2⟩ := items_pre r (N ++ [itemN (if x < 0 then 0 else (N.getD x.toNat d5).at_) x o]) (N.length : Nat)
  refine ⟨(List.prefix_append _ _).trans h1,?_⟩
  have e1 : (x :: r).length = r.length + 1 := rfl
  have e2 : (N ++ [itemN (if x < 0 then 0 else (N.getD x.toNat d5).at_) x o]).length = N.length + 1 := by rw [List.length_append]; rfl
  unfold items
  omega
end
end Go.Proofs.TR
/- Sources of many globals and statements: the tokens, the tree. -/
set_option maxRecDepth 100000
namespace Go.Proofs.TR
open Go Go.En Go.En.Dop
section
variable {L : List Tok} {p p' : Nat} {N N' : List Nde} {T T' : List Typ} {d : Int}
def Rm (L : List Tok) (p : Nat) (ts : List Tok) : Prop := (L.drop p).map Sc.strip = ts
def psAt (L : List Tok) (p : Nat) : Int := (L.getD p d4).at_
theorem Rm.hd {k n : Int} {x : Str} {q : Int} {ts : List Tok} (h : Rm L p (⟨k,x,n,q⟩ :: ts)) : L[p]? = some ⟨k,x,n,psAt L p⟩ := by
 unfold Rm at h
 cases hd : L.drop p with
 | nil => rw [hd] at h; cases h
 | cons t r =>
  rw [hd] at h
  have e : L[p]? = some t := by
   have := congrArg (fun l => l[0]?) hd
   simpa using this
  simp only [List.map_cons,List.cons.injEq,Sc.strip] at h
  obtain ⟨h1,_⟩ := h
  cases h1
  rw [e]
  unfold psAt
  rw [List.getD_eq_getElem?_getD,e]
  rfl
theorem Rm.tl {t : Tok} {ts : List Tok} (h : Rm L p (t :: ts)) : Rm L (p + 1) ts := by
 unfold Rm at h ⊢
 have := congrArg List.tail h
 rw [← List.map_tail,List.tail_drop] at this
 exact this
def wd (x : Str) : Tok := ⟨2,x,0,0⟩
def nm (x : Str) : Tok := ⟨1,x,0,0⟩
def sg (x : Str) : Tok := ⟨4,x,0,0⟩
def fin0 : Tok := ⟨0,[],0,0⟩
def rep (ts : List Tok) : Nat → List Tok
 | 0 => []
 | k + 1 => ts ++ rep ts k
def gtok : List Tok := [wd [105,110,116],nm [120],sg [59]]
def gnode (a : Int) : Nde := { node 52 a with text := [120],type_ := 1,n := 0 }
def gN (L : List Tok) (p : Nat) : Nat → List Nde
 | 0 => []
 | k + 1 => gnode (psAt L p) :: gN L (p + 3) k
theorem gN_len (L : List Tok) : ∀ (k p : Nat),(gN L p k).length = k
 | 0,p => rfl
 | k + 1,p => by unfold gN; rw [List.length_cons,gN_len L k]
def upI (a : Nat) : Nat → List Int
 | 0 => []
 | k + 1 => ((a : Nat) : Int) :: upI (a + 1) k
theorem upI_len : ∀ (k a : Nat),(upI a k).length = k
 | 0,a => rfl
 | k + 1,a => by unfold upI; rw [List.length_cons,upI_len k]
theorem gz_base {ts : List Tok} {q : Tok} (h : Rm L p (wd [105,110,116] :: q :: ts)) (hq : ((decide (q.kind = 4) || decide (q.kind = 2)) && decide (q.text = [42])) = false) : Gz (L := L) d base p N T 1 (p + 1) N T := by
 unfold base
 have h0 := h.hd
 refine Gz.t0 h0 rfl (Gz.t1 h0 rfl ?_)
 unfold stars
 refine Gz.left ?_
 unfold starsL
 obtain ⟨k,x,n,a⟩ := q
 exact Gz.t0 h.tl.hd hq (Gz.pu _)
theorem gz_top {ts : List Tok} (h : Rm L p (gtok ++ ts)) (hN : N.length < 8192) : Gz (L := L) d (top 101) p N T ((N.length : Nat) : Int) (p + 3) (N ++ [gnode (psAt L p)]) T := by
 have h : Rm L p (wd [105,110,116] :: nm [120] :: sg [59] :: ts) := h
 have h0 := h.hd; have h1 := h.tl.hd; have h2 := h.tl.tl.hd
 unfold top
 refine Gz.now h0 (Gz.get fun s hs => ?_)
 refine Gz.i0 (by unfold structZ; rw [hs.isZ h0]; exact Bool.false_ne_true) ?_
 unfold param
 refine Gz.b (Gz.now h0 ((gz_base h (by decide)).b ((Gz.kind h1 rfl).b (Gz.pu _)))) ?_
 refine Gz.t0 h2 rfl ?_
 unfold array
 refine Gz.b (Gz.t0 h2 rfl (Gz.pu _)) ?_
 refine Gz.t0 h2 rfl ?_
 refine Gz.b (Gz.must h2 rfl) ?_
 exact Gz.put hN
theorem topsL_step {f : Nat} {l : List Int} {x : Int} {r : List Int} {t : Tok} {p2 : Nat} {N2 : List Nde} {T2 : List Typ} (h0 : L[p]? = some t) (ht : t.kind ≠ 0) (h : Gz (L := L) d (top 101) p N T x p2 N2 T2) (hr : Gz (L := L) d (topsL 101 f (l ++ [x])) p2 N2 T2 r p' N' T') : Gz (L := L) d (topsL 101 (f + 1) l) p N T r p' N' T' := by
 unfold topsL
 exact Gz.get fun s hs => Gz.i1 hs.e (Gz.now h0 (Gz.i0 ht (h.b hr)))
theorem globs : ∀ (k p : Nat) (N : List Nde) (l : List Int) (f : Nat) {ts : List Tok} {r : List Int},Rm L p (rep gtok k ++ ts) → N.length + k ≤ 8192 →
  Gz (L := L) d (topsL 101 f (l ++ upI N.length k)) (p + 3 * k) (N ++ gN L p k) T r p' N' T' → Gz (L := L) d (topsL 101 (f + k) l) p N T r p' N' T'
 | 0,p,N,l,f,ts,r,_,_,h => by simpa [upI,gN] using h
 | k + 1,p,N,l,f,ts,r,hR,hN,h => by
  have hR' : Rm L p (gtok ++ (rep gtok k ++ ts)) := by simpa [rep] using hR
  have h0 : L[p]? = some ⟨2,[105,110,116],0,psAt L p⟩ := Rm.hd (ts := nm [120] :: sg [59] :: (rep gtok k ++ ts)) hR'
  refine topsL_step (f := f + k) h0 (show (2 : Int) ≠ 0 by decide) (gz_top hR' (by omega)) ?_
  refine globs k (p + 3) _ _ f (ts := ts) (Rm.tl (Rm.tl (Rm.tl hR'))) (by rw [List.length_append,List.length_singleton]; omega) ?_
  have e1 : l ++ [((N.length : Nat) : Int)] ++ upI (N ++ [gnode (psAt L p)]).length k = l ++ upI N.length (k + 1) := by
   rw [List.length_append,List.length_singleton,List.append_assoc]; rfl
  have e2 : N ++ [gnode (psAt L p)] ++ gN L (p + 3) k = N ++ gN L p (k + 1) := by rw [List.append_assoc]; rfl
  have e3 : p + 3 + 3 * k = p + 3 * (k + 1) := by omega
  rw [e1,e2,e3]
  exact h
def enode (a : Int) : Nde := node 44 a
def eN (L : List Tok) (p : Nat) : Nat → List Nde
 | 0 => []
 | k + 1 => enode (psAt L p) :: eN L (p + 1) k
theorem eN_len (L : List Tok) : ∀ (k p : Nat),(eN L p k).length = k
 | 0,p => rfl
 | k + 1,p => by unfold eN; rw [List.length_cons,eN_len L k]
theorem gz_one {ex st : M L Int} {ts : List Tok} (h : Rm L p (sg [59] :: ts)) (hN : N.length < 8192) : Gz (L := L) d (one ex st) p N T ((N.length : Nat) : Int) (p + 1) (N ++ [enode (psAt L p)]) T := by
 have h0 := h.hd
 unfold one
 refine Gz.now h0 ?_
 refine Gz.b (Gz.is (b := false) h0 rfl) (Gz.i0 (by decide) ?_)
 exact Gz.t1 h0 rfl (Gz.put hN)
theorem gz_stmt {ts : List Tok} (h : Rm L p (sg [59] :: ts)) (hN : N.length < 8192) : Gz (L := L) 0 (stmt 101) p N T ((N.length : Nat) : Int) (p + 1) (N ++ [enode (psAt L p)]) T := Gz.within (by decide) (gz_one h hN)
theorem stmts : ∀ (k p : Nat) (N : List Nde) (l : List Int) (f : Nat) {ts : List Tok} {r : Int},Rm L p (rep [sg [59]] k ++ ts) → N.length + k ≤ 8192 →
  Gz (L := L) 0 (blockL (stmt 101) f (l ++ upI N.length k)) (p + k) (N ++ eN L p k) T r p' N' T' → Gz (L := L) 0 (blockL (stmt 101) (f + k) l) p N T r p' N' T'
 | 0,p,N,l,f,ts,r,_,_,h => by simpa [upI,eN] using h
 | k + 1,p,N,l,f,ts,r,hR,hN,h => by
  have hR' : Rm L p (sg [59] :: (rep [sg [59]] k ++ ts)) := by simpa [rep] using hR
  show Gz (L := L) 0 (blockL (stmt 101) ((f + k) + 1) l) p N T r p' N' T'
  unfold blockL
  refine Gz.t0 hR'.hd rfl (Gz.get fun s hs => Gz.i1 hs.e ((gz_stmt hR' (by omega)).b ?_))
  refine stmts k (p + 1) _ _ f (ts := ts) hR'.tl (by rw [List.length_append,List.length_singleton]; omega) ?_
  have e1 : l ++ [((N.length : Nat) : Int)] ++ upI (N ++ [enode (psAt L p)]).length k = l ++ upI N.length (k + 1) := by
   rw [List.length_append,List.length_singleton,List.append_assoc]; rfl
  have e2 : N ++ [enode (psAt L p)] ++ eN L (p + 1) k = N ++ eN L p (k + 1) := by rw [List.append_assoc]; rfl
  have e3 : p + 1 + k = p + (k + 1) := by omega
  rw [e1,e2,e3]
  exact h
def mtok (n : Nat) : List Tok := wd [105,110,116] :: nm [109,97,105,110] :: sg [40] :: sg [41] :: sg [123] :: (rep [sg [59]] n ++ [sg [125],fin0])
def bN (L : List Tok) (p n : Nat) (N : List Nde) : List Nde × Int := items (N ++ eN L (p + 5) n) (upI N.length n).reverse (-1)
def blockN (L : List Tok) (p n : Nat) (N : List Nde) : List Nde := (bN L p n N).1 ++ [{ node 43 (psAt L (p + 4)) with a := (bN L p n N).2 }]
def mainN (L : List Tok) (p n : Nat) (N : List Nde) : List Nde := blockN L p n N ++ [{ node 50 (psAt L p) with text := [109,97,105,110],type_ := 1,a := -1,b := (((bN L p n N).1.length : Nat) : Int) }]
theorem bN_len (L : List Tok) (p n : Nat) (N : List Nde) : (bN L p n N).1.length = N.length + 2 * n := by
 unfold bN
 rw [(items_pre _ _ _).2,List.length_append,eN_len,List.length_reverse,upI_len]; omega
theorem gz_main {n : Nat} (h : Rm L p (mtok n)) (hN : N.length + 2 * n + 2 ≤ 8192) : Gz (L := L) 0 (top 101) p N T (((blockN L p n N).length : Nat) : Int) (p + 6 + n) (mainN L p n N) T := by
 unfold mtok at h
 have h0 := h.hd; have h1 := h.tl.hd; have h2 := h.tl.tl.hd; have h3 := h.tl.tl.tl.hd; have h4 := h.tl.tl.tl.tl.hd; have h5 := h.tl.tl.tl.tl.tl
 unfold top
 refine Gz.now h0 (Gz.get fun s hs => ?_)
 refine Gz.i0 (by unfold structZ; rw [hs.isZ h0]; exact Bool.false_ne_true) ?_
 unfold param
 refine Gz.b (Gz.now h0 ((gz_base h (by decide)).b ((Gz.kind h1 rfl).b (Gz.pu _)))) ?_
 refine Gz.t1 h2 rfl (Gz.left ?_)
 unfold paramsL
 refine Gz.b (Gz.t1 h3 rfl (Gz.pu _)) ?_
 refine Gz.b (Gz.list [] (by simp only [List.length_nil]; omega)) ?_
 have hb : Gz (L := L) 0 (block (stmt 101)) (p + 2 + 1 + 1) N T (((bN L p n N).1.length : Nat) : Int) (p + 6 + n) (blockN L p n N) T := by
  unfold block
  refine Gz.now h4 (Gz.b (Gz.must h4 rfl) (Gz.left ?_))
  have hl : n + 2 ≤ L.length - (p + 2 + 1 + 1 + 1) := by
   have := congrArg List.length (show (L.drop (p + 5)).map Sc.strip = _ from h5)
   have e : ∀ k,(rep [sg [59]] k).length = k := fun k => by
    induction k with
    | zero => rfl
    | succ k ih => unfold rep; rw [List.length_append,ih]; simp; omega
   rw [List.length_map,List.length_drop,List.length_append,e] at this
   simp only [List.length_cons,List.length_nil] at this
   omega
  obtain ⟨f,hf⟩ : ∃ f,L.length - (p + 2 + 1 + 1 + 1) + 2 = (f + 1) + n := ⟨L.length - (p + 2 + 1 + 1 + 1) + 1 - n,by omega⟩
  rw [hf]
  have h6 : ∀ (k q : Nat),Rm L q (rep [sg [59]] k ++ [sg [125],fin0]) → Rm L (q + k) [sg [125],fin0] := fun k => by
   induction k with
   | zero => intro q h; exact h
   | succ k ih =>
    intro q h
    have := ih (q + 1) (Rm.tl (t := sg [59]) (by simpa [rep] using h))
    rw [show q + (k + 1) = q + 1 + k by omega]; exact this
  refine Gz.b (stmts n (p + 5) N [] (f + 1) (r := (bN L p n N).2) (p' := p + 6 + n) (N' := (bN L p n N).1) (T' := T) h5 (by omega) ?_) ?_
  ·unfold blockL
   refine Gz.t1 (h6 n _ h5).hd rfl ?_
   rw [show p + 6 + n = p + 5 + n + 1 by omega,List.nil_append]
   exact Gz.list _ (by rw [List.length_append,eN_len,upI_len]; omega)
  ·exact Gz.put (by rw [bN_len]; omega)
 refine Gz.b hb ?_
 refine Gz.put ?_
 unfold blockN
 rw [List.length_append,bN_len]
 simp only [List.length_singleton]; omega
def allN (L : List Tok) (m n : Nat) : List Nde × Int := items (mainN L (3 * m) n (gN L 0 m)) (upI 0 m ++ [(((blockN L (3 * m) n (gN L 0 m)).length : Nat) : Int)]).reverse (-1)
theorem gz_whole {m n : Nat} (h : Rm L 0 (rep gtok m ++ mtok n)) (hm : m ≤ 1000) (hn : n ≤ 1000) : Gz (L := L) 0 whole 0 [] T (allN L m n).2 (3 * m + 6 + n) (allN L m n).1 T := by
 unfold whole
 refine Gz.left ?_
 have hR : ∀ (k q : Nat) (ts : List Tok),Rm L q (rep gtok k ++ ts) → Rm L (q + 3 * k) ts := fun k => by
  induction k with
  | zero => intro q ts h; exact h
  | succ k ih =>
   intro q ts h
   have h' : Rm L q (wd [105,110,116] :: nm [120] :: sg [59] :: (rep gtok k ++ ts)) := by
    have e : rep gtok (k + 1) ++ ts = wd [105,110,116] :: nm [120] :: sg [59] :: (rep gtok k ++ ts) := by simp [rep,gtok]
    rw [← e]; exact h
   have := ih (q + 3) ts h'.tl.tl.tl
   rw [show q + 3 * (k + 1) = q + 3 + 3 * k by omega]; exact this
 have h1 := hR m 0 _ h
 rw [Nat.zero_add] at h1
 have hl : m + 2 ≤ L.length - 0 := by
  have := congrArg List.length (show (L.drop 0).map Sc.strip = _ from h)
  have e : ∀ k,(rep gtok k).length = 3 * k := fun k => by
   induction k with
   | zero => rfl
   | succ k ih => unfold rep; rw [List.length_append,ih]; simp [gtok]; omega
  rw [List.length_map,List.length_drop,List.length_append,e] at this
  unfold mtok at this
  simp only [List.length_cons] at this
  omega
 obtain ⟨f,hf⟩ : ∃ f,L.length - 0 + 2 = (f + 2) + m := ⟨L.length - m,by omega⟩
 rw [hf]
 have hg : (gN L 0 m).length = m := gN_len L m 0
 refine Gz.b (globs m 0 [] [] (f + 2) (ts := mtok n) (p' := 3 * m + 6 + n) (N' := mainN L (3 * m) n (gN L 0 m)) (T' := T) (r := upI 0 m ++ [(((blockN L (3 * m) n (gN L 0 m)).length : Nat) : Int)]) h (by simp only [List.length_nil]; omega) ?_) ?_
 ·simp only [List.nil_append,List.length_nil,Nat.zero_add]
  have h2 : Rm L (3 * m) (wd [105,110,116] :: nm [109,97,105,110] :: sg [40] :: sg [41] :: sg [123] :: (rep [sg [59]] n ++ [sg [125],fin0])) := h1
  refine topsL_step (f := f + 1) h2.hd (show (2 : Int) ≠ 0 by decide) (gz_main h1 (by omega)) ?_
  have h3 : ∀ (k q : Nat),Rm L q (rep [sg [59]] k ++ [sg [125],fin0]) → Rm L (q + k + 1) [fin0] := fun k => by
   induction k with
   | zero => intro q h; exact Rm.tl h
   | succ k ih =>
    intro q h
    have := ih (q + 1) (Rm.tl (t := sg [59]) (by simpa [rep] using h))
    rw [show q + (k + 1) + 1 = q + 1 + k + 1 by omega]; exact this
  have h4 := (h3 n _ h2.tl.tl.tl.tl.tl).hd
  rw [show 3 * m + 1 + 1 + 1 + 1 + 1 + n + 1 = 3 * m + 6 + n by omega] at h4
  unfold topsL
  exact Gz.get fun s hs => Gz.i1 hs.e (Gz.now h4 (Gz.i1 rfl (Gz.pu _)))
 ·refine Gz.list _ ?_
  unfold mainN blockN
  simp only [List.length_append,bN_len,List.length_singleton,upI_len,hg]
  omega
theorem parse_lists {m n : Nat} (h : Rm L 0 (rep gtok m ++ mtok n)) (hm : m ≤ 1000) (hn : n ≤ 1000) : parse L = (⟨(allN L m n).1,types0,(allN L m n).2⟩,0,0) := by
 have h1 := gz_whole (T := types0) h hm hn (first L) ⟨rfl,rfl,rfl,rfl,rfl⟩
 unfold parse
 simp only
 rw [if_pos h1.2.e,h1.1,h1.2.N,h1.2.T]
end
end Go.Proofs.TR
/- TreeLists is true of any two numbers. -/
set_option maxRecDepth 100000
namespace Go.Proofs.TR
open Go Go.En Go.En.Dop
theorem Sd.kw {x v : Str} (hx : Sc.isName x = true) (hw : x ∈ Sc.words) (hv : Sc.Brk v) : Sc.Sd x [wd x] v := by
 have h := Sc.Sd.name hx hv
 rw [if_pos hw] at h; exact h
theorem Sd.idn {x v : Str} (hx : Sc.isName x = true) (hw : x ∉ Sc.words) (hv : Sc.Brk v) : Sc.Sd x [nm x] v := by
 have h := Sc.Sd.name hx hv
 rw [if_neg hw] at h; exact h
theorem brk {c : UInt8} {v : Str} (h : Sc.aln c = false) : Sc.Brk (c :: v) := fun d r e => by cases e; exact h
theorem sd_end {x v : Str} (hx : Sc.sgB x = true) (h : ∀ y ∈ Sc.signs,x <+: y → y = x) : Sc.Sd x [sg x] v := Sc.Sd.end_ hx h
theorem sd_rep {u : Str} {ts : List Tok} (h : ∀ v,Sc.Sd u ts v) : ∀ (k : Nat) (v : Str),Sc.Sd (Lib.repeatL u k) (rep ts k) v
 | 0,v => Sc.Sd.nil
 | k + 1,v => (h _).app (sd_rep h k v)
theorem sd_g (v : Str) : Sc.Sd [105,110,116,32,120,59] gtok v :=
 (Sd.kw (x := [105,110,116]) rfl (by decide) (brk rfl)).app ((Sc.Sd.ws (c := 32) rfl).app ((Sd.idn (x := [120]) rfl (by decide) (brk rfl)).app (sd_end (x := [59]) rfl (by decide))))
theorem sd_m (v : Str) : Sc.Sd [105,110,116,32,109,97,105,110,40,41,123] [wd [105,110,116],nm [109,97,105,110],sg [40],sg [41],sg [123]] v :=
 (Sd.kw (x := [105,110,116]) rfl (by decide) (brk rfl)).app ((Sc.Sd.ws (c := 32) rfl).app ((Sd.idn (x := [109,97,105,110]) rfl (by decide) (brk rfl)).app
  ((sd_end (x := [40]) rfl (by decide)).app ((sd_end (x := [41]) rfl (by decide)).app (sd_end (x := [123]) rfl (by decide))))))
def srcL (m n : Nat) : Str := Lib.repeatL [105,110,116,32,120,59] m ++ [105,110,116,32,109,97,105,110,40,41,123] ++ Lib.repeatL [59] n ++ [125]
theorem rep_len (ts : List Tok) : ∀ k,(rep ts k).length = k * ts.length
 | 0 => by simp [rep]
 | k + 1 => by unfold rep; rw [List.length_append,rep_len ts k,Nat.succ_mul]; omega
theorem scan_lists {m n : Nat} (hm : m ≤ 100) (hn : n ≤ 100) : ∃ l,Law.scanA (srcL m n) = .ok l ∧ Rm l 0 (rep gtok m ++ mtok n) := by
 have h1 : Sc.Sd (srcL m n) (rep gtok m ++ ([wd [105,110,116],nm [109,97,105,110],sg [40],sg [41],sg [123]] ++ (rep [sg [59]] n ++ [sg [125]]))) [] := by
  unfold srcL
  rw [List.append_assoc,List.append_assoc]
  exact (sd_rep sd_g m _).app ((sd_m _).app ((sd_rep (fun v => sd_end (x := [59]) rfl (by decide)) n _).app (sd_end (x := [125]) rfl (by decide))))
 have h2 := h1.all
 rw [if_pos (by simp only [List.length_append,rep_len,List.length_cons,List.length_nil]; have : gtok.length = 3 := rfl; rw [this]; omega)] at h2
 obtain ⟨l,hl,hs⟩ := Sc.strip_ok h2
 refine ⟨l,?_,?_⟩
 ·unfold Law.scanA
  rw [if_neg ?_,hl]
  have e1 : (srcL m n).length = m * 6 + 11 + n * 1 + 1 := by
   unfold srcL
   simp only [List.length_append,Lib.repeatL_length]; rfl
  omega
 ·unfold Rm mtok
  rw [List.drop_zero,hs]
  simp [fin0]
theorem listN_items (t : Tre) : ∀ (l : List Int) (N : List Nde) (o : Int),(items N l o).1 <+: t.nodes → ∀ cnt,listN t (l.length + cnt) (items N l o).2 = l.reverse ++ listN t cnt o
 | [],N,o,_,cnt => by simp [items]
 | x :: r,N,o,h,cnt => by
  unfold items at h ⊢
  have h1 := listN_items t r _ _ h (cnt + 1)
  have e1 : (x :: r).length + cnt = r.length + (cnt + 1) := by simp only [List.length_cons]; omega
  rw [e1,h1,List.reverse_cons,List.append_assoc]
  congr 1
  have hp : (N ++ [itemN (if x < 0 then 0 else (N.getD x.toNat d5).at_) x o]) <+: t.nodes := (items_pre r _ _).1.trans h
  obtain ⟨q,hq⟩ := hp
  have hg : atN t ((N.length : Nat) : Int) = itemN (if x < 0 then 0 else (N.getD x.toNat d5).at_) x o := by
   unfold atN
   rw [if_neg (by omega),if_neg (by rw [← hq]; simp only [List.length_append,List.length_singleton]; omega)]
   rw [List.getD_eq_getElem?_getD,← hq]
   simp
  show (if (atN t ((N.length : Nat) : Int)).kind = 20 then _ else _) = _
  rw [hg]
  exact if_pos (show (itemN (if x < 0 then 0 else (N.getD x.toNat d5).at_) x o).kind = 20 from rfl)
theorem listN_none (t : Tre) (cnt : Nat) : listN t cnt (-1) = [] := by
 cases cnt with
 | zero => rfl
 | succ k =>
  show (if (atN t (-1)).kind = 20 then _ else _) = _
  rw [if_neg (by unfold atN; rw [if_pos (by decide)]; decide)]
theorem list_is {t : Tre} (ht : t.nodes.length ≤ 8192) {N : List Nde} {l : List Int} (hp : (items N l.reverse (-1)).1 <+: t.nodes) : Tryz.m8 t (items N l.reverse (-1)).2 = some ((l,()),()) := by
 rw [list_v t ht]
 have h1 := listN_items t l.reverse N (-1) hp (t.nodes.length - l.length)
 have h2 : l.length ≤ t.nodes.length := by
  have h3 := hp.length_le
  rw [(items_pre _ _ _).2,List.length_reverse] at h3
  omega
 rw [List.length_reverse,show l.length + (t.nodes.length - l.length) = t.nodes.length by omega,listN_none,List.append_nil,List.reverse_reverse] at h1
 rw [h1]
theorem getD_pre {α : Type} {l l' : List α} {i : Nat} {d : α} (h : l <+: l') (hi : i < l.length) : l'.getD i d = l.getD i d := by
 obtain ⟨q,rfl⟩ := h
 rw [List.getD_eq_getElem?_getD,List.getD_eq_getElem?_getD,List.getElem?_append_left hi]
theorem lists_law (a b : Int) (ha : 0 ≤ a ∧ a ≤ 255) (hb : 0 ≤ b ∧ b ≤ 255) : Tryz.m3 a b = some ((true,()),()) := by
 have hm0 : 0 ≤ a.tmod 100 ∧ a.tmod 100 < 100 := ⟨Int.tmod_nonneg 100 ha.1,Int.tmod_lt_of_pos a (by decide)⟩
 have hn0 : 0 ≤ b.tmod 100 ∧ b.tmod 100 < 100 := ⟨Int.tmod_nonneg 100 hb.1,Int.tmod_lt_of_pos b (by decide)⟩
 rw [Tryz.m3_eq]
 obtain ⟨m,hm⟩ := Int.eq_ofNat_of_zero_le hm0.1
 obtain ⟨n,hn⟩ := Int.eq_ofNat_of_zero_le hn0.1
 rw [hm,hn]
 have hml : m < 100 := by omega
 have hnl : n < 100 := by omega
 have e1 : ((m : Nat) : Int).toNat = m := rfl
 have e2 : ((n : Nat) : Int).toNat = n := rfl
 rw [e1,e2]
 have l1 : (Lib.repeatL [105,110,116,32,120,59] m).length = m * 6 := Lib.repeatL_length _ _
 have l2 : (Lib.repeatL [59] n).length = n * 1 := Lib.repeatL_length _ _
 obtain ⟨l,hs,hr⟩ := scan_lists (m := m) (n := n) (by omega) (by omega)
 have hp := parse_lists hr (by omega) (by omega)
 have hread : read (srcL m n) = (⟨(allN l m n).1,types0,(allN l m n).2⟩,0,0) := by
  unfold read; rw [hs]; exact hp
 have hlen : (parse l).1.nodes.length ≤ 8192 := (parse_len l).1
 rw [hp] at hlen
 generalize ht : (⟨(allN l m n).1,types0,(allN l m n).2⟩ : Tre) = t at *
 have tn : t.nodes = (allN l m n).1 := by rw [← ht]
 have tt : t.top = (allN l m n).2 := by rw [← ht]
 have hg : (gN l 0 m).length = m := gN_len l m 0
 have lb : (blockN l (3 * m) n (gN l 0 m)).length = m + 2 * n + 1 := by
  unfold blockN
  rw [List.length_append,bN_len,hg]; rfl
 have lm : (mainN l (3 * m) n (gN l 0 m)).length = m + 2 * n + 2 := by
  unfold mainN
  rw [List.length_append,lb]; rfl
 have pm : mainN l (3 * m) n (gN l 0 m) <+: t.nodes := by rw [tn]; exact (items_pre _ _ _).1
 have lt : m + 2 * n + 2 ≤ t.nodes.length := lm ▸ pm.length_le
 have lu : (upI 0 m).length = m := upI_len m 0
 have v1 : Tryz.m8 t t.top = some ((upI 0 m ++ [((m + 2 * n + 1 : Nat) : Int)],()),()) := by
  rw [tt]
  have h := list_is (t := t) hlen (N := mainN l (3 * m) n (gN l 0 m)) (l := upI 0 m ++ [(((blockN l (3 * m) n (gN l 0 m)).length : Nat) : Int)]) (by rw [tn]; exact List.prefix_refl _)
  rw [lb] at h
  unfold allN
  rw [lb]
  exact h
 have gm : (upI 0 m ++ [((m + 2 * n + 1 : Nat) : Int)]).getD m 0 = ((m + 2 * n + 1 : Nat) : Int) := by
  rw [List.getD_eq_getElem?_getD,List.getElem?_append_right (by omega),lu,Nat.sub_self]; rfl
 have f1 : t.nodes.getD (m + 2 * n + 1) d5 = { node 50 (psAt l (3 * m)) with text := [109,97,105,110],type_ := 1,a := -1,b := (((bN l (3 * m) n (gN l 0 m)).1.length : Nat) : Int) } := by
  rw [getD_pre pm (by omega)]
  unfold mainN
  rw [List.getD_eq_getElem?_getD,List.getElem?_append_right (by omega),lb,Nat.sub_self]; rfl
 have lbn : (bN l (3 * m) n (gN l 0 m)).1.length = m + 2 * n := by rw [bN_len,hg]
 have f2 : t.nodes.getD (m + 2 * n) d5 = { node 43 (psAt l (3 * m + 4)) with a := (bN l (3 * m) n (gN l 0 m)).2 } := by
  rw [getD_pre pm (by omega)]
  unfold mainN
  rw [List.getD_eq_getElem?_getD,List.getElem?_append_left (by omega)]
  unfold blockN
  rw [List.getElem?_append_right (by omega),lbn,Nat.sub_self]; rfl
 have v2 : Tryz.m8 t (-1) = some (([],()),()) := by rw [list_v t hlen,listN_none]
 have v3 : Tryz.m8 t (bN l (3 * m) n (gN l 0 m)).2 = some ((upI m n,()),()) := by
  have h := list_is (t := t) hlen (N := gN l 0 m ++ eN l (3 * m + 5) n) (l := upI (gN l 0 m).length n) (by
   refine List.IsPrefix.trans ?_ pm
   unfold mainN blockN bN
   rw [List.append_assoc]
   exact List.prefix_append _ _)
  rw [hg] at h
  unfold bN
  rw [hg]
  exact h
 refine (if_pos (inR_of (by omega) (by omega))).trans ?_
 refine (if_pos (decide_eq_true (by decide))).trans ?_
 refine (if_pos (inR_of (by omega) (by omega))).trans ?_
 refine (if_pos (decide_eq_true (by decide))).trans ?_
 refine (if_pos (decide_eq_true (show (0 : Int) ≤ (m : Nat) ∧ ((m : Nat) : Int) ≤ 1000000 ∧ (6 : Nat) ≤ 1000000 by omega))).trans ?_
 refine (if_pos (decide_eq_true (show (Lib.repeatL [105,110,116,32,120,59] m).length + 11 ≤ 9223372036854775807 by omega))).trans ?_
 refine (if_pos (decide_eq_true (show (0 : Int) ≤ (n : Nat) ∧ ((n : Nat) : Int) ≤ 1000000 ∧ (1 : Nat) ≤ 1000000 by omega))).trans ?_
 refine (if_pos (decide_eq_true (show (Lib.repeatL [105,110,116,32,120,59] m ++ [105,110,116,32,109,97,105,110,40,41,123]).length + (Lib.repeatL [59] n).length ≤ 9223372036854775807 by rw [List.length_append,l1,l2]; show m * 6 + 11 + n * 1 ≤ _; omega))).trans ?_
 refine (if_pos (decide_eq_true (show (Lib.repeatL [105,110,116,32,120,59] m ++ [105,110,116,32,109,97,105,110,40,41,123] ++ Lib.repeatL [59] n).length + 1 ≤ 9223372036854775807 by rw [List.length_append,List.length_append,l1,l2]; show m * 6 + 11 + n * 1 + 1 ≤ _; omega))).trans ?_
 refine (ob ((r_read (srcL m n)).trans (congrArg (fun x => some (enc3 x)) hread))).trans ?_
 refine (ob v1).trans ?_
 refine (if_neg (show ¬ (!decide ((0 : Int) = 0)) = true by decide)).trans ?_
 refine (if_pos (inR_of (by omega) (by omega))).trans ?_
 refine (if_neg (show ¬ (!decide (I (upI 0 m ++ [((m + 2 * n + 1 : Nat) : Int)]).length = ((m : Nat) : Int) + 1)) = true by rw [decide_eq_true (by simp only [I,List.length_append,lu,List.length_singleton]; omega)]; decide)).trans ?_
 refine (if_pos (decide_eq_true (show (0 : Int) ≤ (m : Nat) ∧ ((m : Nat) : Int) < I (upI 0 m ++ [((m + 2 * n + 1 : Nat) : Int)]).length by simp only [I,List.length_append,lu,List.length_singleton]; omega))).trans ?_
 refine (if_pos (decide_eq_true (show m < (upI 0 m ++ [((m + 2 * n + 1 : Nat) : Int)]).length by rw [List.length_append,lu]; exact Nat.lt_succ_self _))).trans ?_
 show (if decide ((0 : Int) ≤ (upI 0 m ++ [((m + 2 * n + 1 : Nat) : Int)]).getD m 0 ∧ (upI 0 m ++ [((m + 2 * n + 1 : Nat) : Int)]).getD m 0 < I t.nodes.length) = true then _ else _) = _
 rw [gm]
 refine (if_pos (decide_eq_true (show (0 : Int) ≤ ((m + 2 * n + 1 : Nat) : Int) ∧ ((m + 2 * n + 1 : Nat) : Int) < I t.nodes.length by simp only [I]; omega))).trans ?_
 have ee : (enc3 (t,0,0)).fst.fst = t := rfl
 rw [show ((m + 2 * n + 1 : Nat) : Int).toNat = m + 2 * n + 1 from rfl,ee,f1]
 refine (if_pos (decide_eq_true rfl)).trans ?_
 refine (ob v2).trans ?_
 refine (if_pos (decide_eq_true rfl)).trans ?_
 show (if decide ((0 : Int) ≤ (((bN l (3 * m) n (gN l 0 m)).1.length : Nat) : Int) ∧ (((bN l (3 * m) n (gN l 0 m)).1.length : Nat) : Int) < I t.nodes.length) = true then (Tryz.m8 t (t.nodes.getD (((bN l (3 * m) n (gN l 0 m)).1.length : Nat) : Int).toNat d5).a).bind _ else _) = _
 rw [show (((bN l (3 * m) n (gN l 0 m)).1.length : Nat) : Int).toNat = (bN l (3 * m) n (gN l 0 m)).1.length from rfl,lbn,f2]
 refine (if_pos (decide_eq_true (show (0 : Int) ≤ ((m + 2 * n : Nat) : Int) ∧ ((m + 2 * n : Nat) : Int) < I t.nodes.length by simp only [I]; omega))).trans ?_
 refine (ob v3).trans ?_
 refine (if_pos (decide_eq_true (show I (upI m n).length = ((n : Nat) : Int) by rw [upI_len]))).trans ?_
 refine (ob v2).trans ?_
 refine (if_pos (decide_eq_true rfl)).trans ?_
 exact (ob awake_v).trans rfl
end Go.Proofs.TR
