/-
 A row of one's own becomes data that stay (VC.frz).
-/
import Derived.Test.YtkpokomghbhadaaGreatDoorEn12c
namespace Go.En
open Go.RowKit
section
variable {S : Sig}
mutual
theorem frz_den {β : Nat → Nm} {j n : Nat} (h : (SV.h n).den β = (SV.tr j).den β) : ∀ x : SV,(x.frz j n).den β = x.den β
 | .tr i => by
  simp only [SV.frz]
  split
  ·rename_i he; rw [Nat.eq_of_beq_eq_true he]; exact h
  ·rfl
 | .agg cs => by simp only [SV.frz,SV.den]; rw [frzS_den h cs]
 | .tup cs => by simp only [SV.frz,SV.den]; rw [frzS_den h cs]
 | .v _ => rfl
 | .b _ => rfl
 | .ptr _ _ => rfl
 | .row _ _ => rfl
 | .ep _ _ _ _ => rfl
 | .view _ _ _ _ => rfl
 | .mref _ => rfl
 | .h _ => rfl
 | .vp _ _ => rfl
 | .ap _ _ _ _ => rfl
 | .pr _ _ _ _ => rfl
 | .pp _ _ _ _ _ _ _ => rfl
 | .fn _ _ => rfl
theorem frzS_den {β : Nat → Nm} {j n : Nat} (h : (SV.h n).den β = (SV.tr j).den β) : ∀ l : List SV,denL β (frzS j n l) = denL β l
 | [] => rfl
 | x :: r => by simp only [frzS,denL]; rw [frz_den h x,frzS_den h r]
end
mutual
theorem frz_on {N N' : Nat → Prop} {j n : Nat} (h : ∀ i,N i → N' i) (hn : N' n) : ∀ {x : SV},x.on N → (x.frz j n).on N'
 | .tr i,hx => by
  simp only [SV.frz]
  split
  ·exact hn
  ·exact h i hx
 | .agg cs,hx => frzS_on h hn (l := cs) hx
 | .tup cs,hx => frzS_on h hn (l := cs) hx
 | .v _,_ => trivial
 | .b _,_ => trivial
 | .ptr i _,hx => h i hx
 | .row i _,hx => h i hx
 | .ep i _ _ _,hx => h i hx
 | .view i _ _ _,hx => h i hx
 | .mref i,hx => h i hx
 | .h i,hx => h i hx
 | .vp i _,hx => h i hx
 | .ap i _ _ _,hx => h i hx
 | .pr i _ _ _,hx => h i hx
 | .pp i _ _ _ _ _ _,hx => h i hx
 | .fn _ cs,hx => onL_mono h hx
theorem frzS_on {N N' : Nat → Prop} {j n : Nat} (h : ∀ i,N i → N' i) (hn : N' n) : ∀ {l : List SV},onL N l → onL N' (frzS j n l)
 | [],_ => trivial
 | _ :: _,hx => ⟨frz_on h hn hx.1,frzS_on h hn hx.2⟩
end
theorem lk_frzT {j n : Nat} {t : Nat} : ∀ {l : List (Nat × SV)} {y : SV},lk (frzT j n l) t = some y → ∃ x,lk l t = some x ∧ y = x.frz j n
 | [],y,h => by simp [frzT,lk_nil] at h
 | (d,x) :: r,y,h => by
  simp only [frzT,lk_cons] at h ⊢
  split at h
  ·rename_i he; cases h; exact ⟨x,by simp [he],rfl⟩
  ·rename_i he; obtain ⟨z,h1,h2⟩ := lk_frzT h; exact ⟨z,by simp [he,h1],h2⟩
theorem lk_frzO {j n : Nat} {i : Nat} : ∀ {l : List (Nat × Own S)} {c : Own S},lk (frzO j n l) i = some c → ∃ b,lk l i = some b ∧ c = b.frz j n
 | [],c,h => by simp [frzO,lk_nil] at h
 | (d,x) :: r,c,h => by
  simp only [frzO,lk_cons] at h ⊢
  split at h
  ·rename_i he; cases h; exact ⟨x,by simp [he],rfl⟩
  ·rename_i he; obtain ⟨z,h1,h2⟩ := lk_frzO h; exact ⟨z,by simp [he,h1],h2⟩
theorem Own.frz_holds {D : Nat → Prop} {β : Nat → Nm} {w : World} {nm : Nm} {j n : Nat} (h : (SV.h n).den β = (SV.tr j).den β) {b : Own S} (hb : b.holds D β w nm) : (b.frz j n).holds D β w nm := by
 cases b with
 | blk T cs => obtain ⟨k,h1,h2⟩ := hb; exact ⟨k,h1,by rw [frzS_den h]; exact h2⟩
 | _ => exact hb
theorem Own.frz_on {N N' : Nat → Prop} {j n : Nat} (h : ∀ i,N i → N' i) (hn : N' n) {b : Own S} (hb : b.on N) : (b.frz j n).on N' := by
 cases b with
 | blk T cs => exact frzS_on h hn hb
 | _ => exact Own.on_mono h hb
theorem row_cell {w : World} {D D' : Nat → Prop} {β : Nat → Nm} {nm : Nm} {τ : Nat} {E : TypeId} {l : List (S.T τ)} (h : (Own.tr τ E l).holds D β w nm) (hD : ∀ k,D k → D' k) (hb : ∀ k,nm.b = some k → D' k) :
  CellOk S w D' (.sl τ l) (.slice (nm.b.map fun b => ⟨b,0,none⟩) nm.len nm.cap) := by
 obtain ⟨hlen,vs,hrow,hvs⟩ := h
 rw [hlen]
 by_cases h0 : l.length = 0
 ·have : l = [] := List.eq_nil_of_length_eq_zero h0
  subst this; exact .nil _ _ _
 ·have hbs := ownsRow_some hrow (by omega)
  have hcap : l.length ≤ nm.cap := by
   rcases hrow.2 with ⟨_,h8⟩ | ⟨g,cap,cur,h8,_,_,h9,_⟩
   ·omega
   ·rw [hbs] at h8; simp at h8; omega
  rw [hbs]
  simp only [Option.map_some]
  refine CellOk.sl _ _ _ _ _ (fun i => vs.getD i undef) (hb _ hbs) hcap (fun i f hf => ?_) fun i f hf => ?_
  ·have hlt : i < vs.length := by rw [← hvs.1]; exact (List.getElem?_eq_some_iff.1 hf).1
   rw [Nat.zero_add,(ownsRow_cell hrow (List.getElem?_eq_getElem hlt)).2]
   simp [List.getD,hlt]
  ·have hlt : i < vs.length := by rw [← hvs.1]; exact (List.getElem?_eq_some_iff.1 hf).1
   have := hvs.2 i f _ hf (List.getElem?_eq_getElem hlt)
   simp only [List.getD,List.getElem?_eq_getElem hlt,Option.getD_some]
   exact this.keep (fun _ _ => rfl) hD
section
variable {Φ : Fence} {P : Program} {Q : Exit → Act → World → Prop} {w0 : World} {F D0 D : Nat → Prop} {bn : Nat} {β0 : Nat → Nm} {M : Nat} {k : List It} {s : St S} {β : Nat → Nm} {a : Act} {w : World}
theorem frz_n (s : St S) (j : Nat) : s.n ≤ (s.frz j).n := by
 unfold St.frz; split
 ·exact Nat.le_succ _
 ·exact Nat.le_refl _
theorem frz_sz (s : St S) (j : Nat) : (s.frz j).sz = s.sz := by
 unfold St.frz; split <;> rfl
theorem frz_ok (hg : G w0 F D0 D s (· < s.n) β a w) (j : Nat) : ∃ D' β',(∀ i,i < s.n → β i = β' i) ∧ G w0 F D0 D' (s.frz j) (· < (s.frz j).n) β' a w := by
 unfold St.frz
 split
 case h_2 => exact ⟨D,β,fun _ _ => rfl,hg⟩
 rename_i τ E l hl
 let nm : Nm := ⟨none,0,0,.slice ((β j).b.map fun b => ⟨b,0,none⟩) (β j).len (β j).cap⟩
 let β' : Nat → Nm := fun i => if i = s.n then nm else β i
 let D' : Nat → Prop := fun k => D k ∨ (β j).has k
 have hβ : ∀ i,i < s.n → β i = β' i := fun i hi => by simp only [β']; rw [if_neg (by omega)]
 have hβn : β' s.n = nm := by simp [β']
 have hjn : j < s.n := (hg.gh.wfo j _ hl).1
 have hden : (SV.h s.n).den β' = (SV.tr j).den β' := by
  simp only [SV.den,hβn,← hβ j hjn]; rfl
 have hrow := hg.gh.own j _ hl
 have hDD : ∀ k,D k → D' k := fun k hk => .inl hk
 have hcase : ∀ i c,lk ((s.n,Own.sl τ l) :: frzO j s.n (rm s.o j)) i = some c → (i = s.n ∧ c = .sl τ l) ∨ (i ≠ j ∧ ∃ b,lk s.o i = some b ∧ c = b.frz j s.n) := fun i c hi => by
  rw [lk_cons] at hi
  split at hi
  ·rename_i he; cases hi; exact .inl ⟨he.symm,rfl⟩
  ·obtain ⟨b,h1,h2⟩ := lk_frzO hi
   rw [lk_rm] at h1
   split at h1
   ·cases h1
   ·rename_i hne; exact .inr ⟨fun e => hne e.symm,b,h1,h2⟩
 have hnh : ∀ k,¬ nm.has k := fun k => Nm.noB_slice.no k
 refine ⟨D',β',hβ,hg.defers,hg.size,fun t x hx => ?_,fun t x hx => ?_,⟨fun i c hi => ?_,fun i c hi => ?_,fun i i2 c c2 k hi hi2 h1 h2 => ?_,fun i c k hi h1 => ?_,fun i c k hi h1 hD => ?_,fun i c k hi h1 => ?_,fun k hk => ?_,fun k hk => ?_,hg.gh.fr,fun k hk => .inl (hg.gh.sub k hk)⟩⟩
 ·obtain ⟨y,h1,rfl⟩ := lk_frzT hx
  obtain ⟨h2,h3⟩ := hg.wft t y h1
  exact ⟨h2,frz_on (N := (· < s.n)) (N' := (· < s.n + 1)) (fun i hi => Nat.lt_succ_of_lt hi) (Nat.lt_succ_self s.n) h3⟩
 ·obtain ⟨y,h1,rfl⟩ := lk_frzT hx
  rw [frz_den hden,hg.tmps t y h1]
  exact den_congr hβ y (hg.wft t y h1).2
 ·rcases hcase i c hi with ⟨rfl,rfl⟩ | ⟨_,b,h1,rfl⟩
  ·exact ⟨Nat.lt_succ_self _,trivial⟩
  ·obtain ⟨h2,h3⟩ := hg.gh.wfo i b h1
   exact ⟨Nat.lt_succ_of_lt h2,Own.frz_on (N := (· < s.n)) (N' := (· < s.n + 1)) (fun i hi => Nat.lt_succ_of_lt hi) (Nat.lt_succ_self s.n) h3⟩
 ·rcases hcase i c hi with ⟨rfl,rfl⟩ | ⟨_,b,h1,rfl⟩
  ·rw [hβn]
   exact ⟨Nm.noB_slice,row_cell hrow hDD fun k hk => .inr (.inl hk)⟩
  ·obtain ⟨h2,h3⟩ := hg.gh.wfo i b h1
   rw [← hβ i h2]
   exact Own.frz_holds hden (Own.holds_dom (Own.holds_congr hβ h3 (hg.gh.own i b h1)) hDD)
 ·rcases hcase i c hi with ⟨rfl,rfl⟩ | ⟨_,b,h3,rfl⟩
  ·rw [hβn] at h1; exact absurd h1 (hnh k)
  ·rcases hcase i2 c2 hi2 with ⟨rfl,rfl⟩ | ⟨_,b2,h4,rfl⟩
   ·rw [hβn] at h2; exact absurd h2 (hnh k)
   ·rw [← hβ i (hg.gh.wfo i b h3).1] at h1; rw [← hβ i2 (hg.gh.wfo i2 b2 h4).1] at h2
    exact hg.gh.inj i i2 b b2 k h3 h4 h1 h2
 ·rcases hcase i c hi with ⟨rfl,rfl⟩ | ⟨_,b,h3,rfl⟩
  ·rw [hβn] at h1; exact absurd h1 (hnh k)
  ·rw [← hβ i (hg.gh.wfo i b h3).1] at h1
   exact hg.gh.fresh i b k h3 h1
 ·rcases hcase i c hi with ⟨rfl,rfl⟩ | ⟨hne,b,h3,rfl⟩
  ·rw [hβn] at h1; exact absurd h1 (hnh k)
  ·rw [← hβ i (hg.gh.wfo i b h3).1] at h1
   rcases hD with hD | hD
   ·exact hg.gh.off i b k h3 h1 hD
   ·exact hne (hg.gh.inj i j b _ k h3 hl h1 hD)
 ·rcases hcase i c hi with ⟨rfl,rfl⟩ | ⟨_,b,h3,rfl⟩
  ·rw [hβn] at h1; exact absurd h1 (hnh k)
  ·rw [← hβ i (hg.gh.wfo i b h3).1] at h1
   exact hg.gh.lt i b k h3 h1
 ·rcases hk with hk | hk
  ·exact hg.gh.dlt k hk
  ·exact hg.gh.lt j _ k hl hk
 ·rcases hk with hk | hk
  ·exact hg.gh.dom k hk
  ·exact (hg.gh.fresh j _ k hl hk).elim (fun h => .inr (.inr h)) (fun h => .inr (.inl h))
theorem VC.frz (hbn : bn ≤ s.n) (j : Nat) (h : VC Φ P Q w0 F D0 bn β0 M k (s.frz j)) : VC Φ P Q w0 F D0 bn β0 M k s := fun D β a w hβ0 hg => by
 obtain ⟨D',β',h1,h2⟩ := frz_ok hg j
 exact h D' β' a w (fun i hi => by rw [← h1 i (Nat.lt_of_lt_of_le hi hbn)]; exact hβ0 i hi) h2
theorem VC.frzL : ∀ (l : List Nat) {s : St S},bn ≤ s.n → VC Φ P Q w0 F D0 bn β0 M k (Go.En.frzL s l) → VC Φ P Q w0 F D0 bn β0 M k s
 | [],s,_,h => h
 | j :: r,s,hbn,h => VC.frz hbn j (VC.frzL r (Nat.le_trans hbn (frz_n s j)) h)
theorem frzL_n : ∀ (l : List Nat) (s : St S),s.n ≤ (frzL s l).n
 | [],s => Nat.le_refl _
 | j :: r,s => Nat.le_trans (frz_n s j) (frzL_n r _)
theorem frzL_sz : ∀ (l : List Nat) (s : St S),(frzL s l).sz = s.sz
 | [],s => rfl
 | j :: r,s => (frzL_sz r _).trans (frz_sz s j)
end
end
end Go.En
