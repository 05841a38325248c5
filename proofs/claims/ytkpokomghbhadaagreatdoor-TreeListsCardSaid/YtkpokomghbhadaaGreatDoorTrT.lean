/-
 What is known of a source's tokens; tree.Read's model is the plain one.
-/
import Derived.Test.YtkpokomghbhadaaGreatDoorTrF
import Derived.Test.YtkpokomghbhadaaGreatDoorTrAP
import Derived.Test.YtkpokomghbhadaaGreatDoorLx
set_option maxRecDepth 100000
namespace Go.Proofs.TR
open Go Go.En Go.En.Dop
def TokOk (n : Nat) (t : Tok) : Prop := 0 ≤ t.at_ ∧ t.at_ + (t.text.length : Int) ≤ (n : Int) ∧ 0 ≤ t.n ∧ t.n < 4294967296 ∧ 0 ≤ t.kind ∧ t.kind ≤ 4
theorem pl_all (S : List UInt8) : ∀ (l : List Tok) (a : Nat),Sc.Pl S a l → ∀ t ∈ l,TokOk S.length t
 | [],a,h => h.elim
 | t :: r,a,h => fun u hu => by
  rcases h with ⟨rfl,rfl,ha⟩ | ⟨_,k1,k2,n1,n2,_,p,hp,hap,hle,_,hr⟩
  ·rw [List.mem_singleton.1 hu]
   exact ⟨show (0 : Int) ≤ ((S.length : Nat) : Int) by omega,show ((S.length : Nat) : Int) + ((0 : Nat) : Int) ≤ _ by omega,Int.le_refl 0,show (0 : Int) < _ by decide,Int.le_refl 0,show (0 : Int) ≤ 4 by decide⟩
  ·rcases List.mem_cons.1 hu with rfl | hu
   ·exact ⟨by rw [hp]; omega,by rw [hp]; omega,n1,n2,by omega,k2⟩
   ·exact pl_all S r _ hr u hu
theorem scan_e : ∀ s cnt a x e,Sc.scanL a cnt s = .err x e → e ≠ 0 := by
 have tk : ∀ c r e,Sc.tokL (c :: r) = .err e → e ≠ 0 := fun c r e h => by rcases Law.tokL_err h with rfl | rfl <;> decide
 have cons : ∀ {t : Tok} {m : Sc.Scn} {x : Nat} {e : Int},m.cons t = .err x e → m = .err x e := fun {t m x e} h => by
  cases m with
  | err a e' => exact h
  | ok l => cases h
 refine Sc.scan_ind (P := fun cnt s => ∀ a x e,Sc.scanL a cnt s = .err x e → e ≠ 0) ?_ ?_ ?_ ?_ ?_
 ·intro cnt s y h a x e he; rw [Sc.scan_bad _ _ h] at he; cases he; decide
 ·intro cnt s h a x e he; rw [Sc.scan_end _ _ h] at he; cases he
 ·intro cnt s c r e' h h2 a x e he; rw [Sc.scan_err _ _ h h2] at he; cases he; exact tk _ _ _ h2
 ·intro cnt s c r k t n h h2 h3 a x e he; rw [Sc.scan_full _ h h2 h3] at he; cases he; decide
 ·intro cnt s c t y k n h h2 h3 ih a x e he
  rw [Sc.scan_tok _ h h2 h3,Sc.drop_tok] at he
  exact ih _ _ _ _ (cons he)
structure Src (s : List UInt8) (l : List Tok) : Prop where
 len : s.length ≤ 32768
 eq : Sc.scanL 0 0 s = .ok l
theorem Src.pl {s : List UInt8} {l : List Tok} (h : Src s l) : Sc.Pl s 0 l := Sc.places s s 0 0 l h.eq rfl (Nat.zero_le _)
theorem Src.tokL {s : List UInt8} {l : List Tok} (h : Src s l) : TokL l := by
 have h1 := pl_all s l 0 h.pl
 have h2 := (Sc.joined_len s 0 0 l h.eq).2
 have h3 := h.len
 exact ⟨by omega,fun t ht => by have := h1 t ht; unfold TokOk at this; omega,fun t ht => by have := h1 t ht; unfold TokOk at this; omega⟩
def read (s : List UInt8) : Tre × Int × Int := match Law.scanA s with
 | .err a e => (⟨[],[],0⟩,(a : Int),e)
 | .ok l => parse l
theorem scan_src {s : List UInt8} {l : List Tok} (h : Law.scanA s = .ok l) : Src s l := by
 unfold Law.scanA at h
 split at h
 ·cases h
 ·exact ⟨by omega,h⟩
theorem scan_ne {s : List UInt8} {a : Nat} {e : Int} (h : Law.scanA s = .err a e) : e ≠ 0 := by
 unfold Law.scanA at h
 split at h
 ·cases h; decide
 ·exact scan_e _ _ _ _ _ h
theorem r_read (s : List UInt8) : Tryz.m6 s = some (enc3 (read s)) := by
 rw [Tryz.m6_eq,Law.scan_v]
 unfold read
 cases h : Law.scanA s with
 | err a e =>
  have he := scan_ne h
  exact (if_pos (show (!decide (e = 0)) = true by rw [decide_eq_false he]; rfl)).trans rfl
 | ok l =>
  have k : (Tryz.m14 l).bind (fun y4 => some ((y4.fst.fst,(y4.fst.snd.fst,(y4.fst.snd.snd.fst,()))),())) = some (enc3 (parse l)) := (ob (r_parse (scan_src h).tokL)).trans rfl
  exact k
end Go.Proofs.TR
