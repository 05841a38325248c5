/-
 The evaluation is sound: a row of no element that is made and then appended to, in a region whose order is drawn.
-/
import Derived.Test.YtkpokomghbhadaaGreatDoorEn8e
import Derived.Laws.CopyRow
namespace Go.En
open Go.RowKit
section
variable {S : Sig} {P : Program} {w0 : World} {F D0 D : Nat → Prop} {s : St S} {N : Nat → Prop} {β : Nat → Nm} {a : Act} {w : World}
theorem buildSlice_none {T e esz : Nat} {o : Oper} {d : Option Tmp} (ho : o.op = .buildSlice T 0 ⟨[]⟩) (h2 : P.underlying T = some (.slice e)) (h3 : (P.info? e).map (·.size) = some esz) : (execOp a.eval o).run P w = .ok (.value (.slice (some ⟨w.heap.size,0,none⟩) 0 0)) (w.alloc (.cells #[] e)) := by
 simp [execOp,ho,Instr.buildSlice,Sem.run_bind,run_underlying h2,Result.andThen_ok,run_size h3,newRow,run_newObj,Instr.fill,Array.range_zero',List.map_toArray,List.map_nil]
 first | rfl | done
theorem isB0_sound {tb : List (Nat × TI)} (htb : TabOk S P tb) {all : List Oper} {o : Oper} {e : Nat} (h : isB0 tb all o = some e) : (execOp a.eval o).run P w = .ok (.value (.slice (some ⟨w.heap.size,0,none⟩) 0 0)) (w.alloc (.cells #[] e)) := by
 unfold isB0 at h
 split at h
 case h_2 => cases h
 rename_i T d ho hd
 split at h
 case h_2 => cases h
 rename_i e' esz ht _
 have hd := tdOf_ok htb ht
 simp only [TD.ok] at hd
 split at h
 case h_2 => cases h
 split at h
 case h_2 => cases h
 cases h
 exact buildSlice_none (d := none) ho hd.1 hd.2
theorem app0_sound' {tb : List (Nat × TI)} (htb : TabOk S P tb) (hg : G w0 F D0 D s N β a w) {o : Oper} {j : Nat} {b : Bool} {c : Option Bool} {o1 : List (Nat × Own S)} {n' : Nat} {v : SV} (h : app0 tb s o.op = some (j,b,.nm c o1 n' v)) (hc : okC c) :
  (b = true → N j ∧ ∃ w',(execOp a.eval o).run P w = .ok (.value ((SV.view j 0 0 0).den β)) w' ∧ Below w.heap.size w w') ∧
  (b = false → (∀ j,s.n ≤ j → j < n' → ¬ N j) → ∃ β' w',(execOp a.eval o).run P w = .ok (.value (v.den β')) w' ∧ NewOk D D N s.n n' o1 β β' w w' ∧ v.on (more N s.n n')) := by
 unfold app0 at h
 split at h
 case h_2 => cases h
 rename_i x y T T' hop
 split at h
 case h_2 => cases h
 rename_i e esz hT ht
 have hT := Nat.eq_of_beq_eq_true hT
 subst hT
 have hd := tdOf_ok htb ht
 simp only [TD.ok] at hd
 split at h
 case h_2 => cases h
 rename_i te hte
 have hoe := htb.get hte
 split at h
 case h_2 => cases h
 rename_i τ hτ
 obtain ⟨hsz,hpos,_,_⟩ := hoe.dat τ hτ
 split at h
 case h_2 => cases h
 rename_i j' yv hz hx hy
 have hz := Nat.eq_of_beq_eq_true hz
 split at h
 case h_2 => cases h
 rename_i E hj
 split at h
 case h_2 => cases h
 rename_i c' l' hE hs
 have hE := Nat.eq_of_beq_eq_true hE
 subst hE
 simp only [Option.some.injEq,Prod.mk.injEq,R.nm.injEq] at h
 obtain ⟨rfl,rfl,rfl,rfl,rfl,rfl⟩ := h
 have hcc : okC c' ∧ room te.bs l'.length = true := by
  cases c' with
  | none => exact ⟨trivial,hc⟩
  | some c => simp only [okC,andC,Bool.and_eq_true] at hc; exact hc
 obtain ⟨hc1,hroom⟩ := hcc
 simp only [room,decide_eq_true_eq] at hroom
 have hsrc := srcL_ok hg.gh hs hc1
 obtain ⟨g,hb1,hb2⟩ := hg.gh.own j' _ hj
 have hinf := hoe.info
 cases hi : P.info? E with
 | none => simp [hi] at hinf
 | some i =>
 simp only [hi,Option.map_some,Option.some.injEq,Prod.mk.injEq] at hinf
 obtain ⟨hiz,his,hib⟩ := hinf
 have hzc : te.z.cells.size = te.sz := by rw [← Array.length_toList,hoe.zc β,denL_length,hoe.zl]
 have e1 : a.eval x = .slice (some ⟨g,0,none⟩) 0 0 := by rw [ev_den hg hx]; simp [SV.den,Nm.blk,hb1]
 have e2 : a.eval y = yv.den β := ev_den hg hy
 have hden : (SV.view j' 0 0 0).den β = .slice (some ⟨g,0,none⟩) 0 0 := by simp [SV.den,Nm.blk,hb1]
 have hex : ∀ v' w',(Builtin.append_ #[T',T'] o.type #[.slice (some ⟨g,0,none⟩) 0 0,yv.den β]).run P w = .ok v' w' → (execOp a.eval o).run P w = .ok (.value v') w' := fun v' w' hr => by
  unfold execOp
  simp only [hop,resolve,invoke,builtin,Sem.run_bind,Sem.run_pure,Result.andThen_ok,List.map_toArray,List.map_cons,List.map_nil,e1,e2,hr]
 have hown : w.ownsRow 0 E te.sz (.slice (some ⟨g,0,none⟩) 0 0) 0 [] := ⟨by simp,.inr ⟨g,0,#[],rfl,Nat.zero_le _,hb2,Nat.le_refl _,Nat.zero_le _,by simp,by simp⟩⟩
 have hnone : ∀ (a' : Option Addr) (c' : Nat),yv.den β = .slice a' 0 c' → ∃ w',(Builtin.append_ #[T',T'] o.type #[.slice (some ⟨g,0,none⟩) 0 0,yv.den β]).run P w = .ok (.slice (some ⟨g,0,none⟩) 0 0) w' ∧ Below w.heap.size w w' := fun a' c' hv => by
  rw [hv]
  cases a' with
  | none => exact ⟨w,by simp [Builtin.append_,run_underlying hd.1,sizeOf,typeInfo,hi,Builtin.lenOf,Builtin.firstCells,storeCells],Below.refl _ _⟩
  | some ad =>
   have hr := run_append_room (P := P) w T' o.type E i hd.1 hi g 0 0 #[] hb2 ad 0 c' [] (by simp) (fun j u hu => by simp at hu) (fun u hu => by simp at hu) (Nat.le_refl _) (by simp)
   have he : ((#[] : Array Value).toList.take (0 * i.size) ++ [] ++ (#[] : Array Value).toList.drop (0 * i.size + ([] : List Value).length)).toArray = #[] := by simp
   rw [he,setRow_self w g #[] E (0,0) hb2] at hr
   exact ⟨w,hr,Below.refl _ _⟩
 refine ⟨fun hb => ?_,fun hb hN => ?_⟩
 ·have hl0 : l' = [] := List.eq_nil_of_length_eq_zero (by simpa using hb)
  refine ⟨(hg.gh.wfo j' _ hj).1,?_⟩
  subst hl0
  have : ∃ a' c',yv.den β = .slice a' 0 c' := by
   rcases hsrc with ⟨_,h2⟩ | ⟨_,a',c',h2⟩ | ⟨ad,c',us,h1,_,_⟩
   ·exact ⟨none,0,h2⟩
   ·exact ⟨a',c',h2⟩
   ·exact ⟨some ad,c',h1⟩
  obtain ⟨a',c',hv⟩ := this
  obtain ⟨w',h1,h2⟩ := hnone a' c' hv
  exact ⟨w',by rw [hden]; exact hex _ _ h1,h2⟩
 ·have hl0 : l' ≠ [] := fun h => by subst h; simp at hb
  have hlp : 0 < l'.length := List.length_pos_iff.2 hl0
  rcases hsrc with ⟨h1,_⟩ | ⟨h1,_⟩ | ⟨ad,c',us,h1,h2,h3⟩
  ·exact absurd h1 hl0
  ·exact absurd h1 hl0
  have hul : us.length = l'.length * te.sz := by rw [← h2.1,S.flat_length,hsz]
  have hbytes : l'.length * i.bytes ≤ 140737488355328 := by rw [hib]; exact Nat.le_trans (Nat.mul_le_mul_left _ (Nat.le_succ _)) hroom
  have hle : l'.length ≤ 140737488355328 := Nat.le_trans (Nat.le_mul_of_pos_right _ (Nat.succ_pos _)) hroom
  have hr := run_append_grow (P := P) w T' o.type E i te.z hd.1 hi hiz ⟨g,0,none⟩ 0 0 [] (by simp) (fun j u hu => by simp at hu) ad l'.length c' us (by rw [his,hul]) h3 (by omega) (by omega) (growslice_fits (by omega) (by simpa using hbytes))
  obtain ⟨v',w',hr2,h4,h5⟩ := run_append_own (P := P) w 0 T' o.type E i te.z te.sz te.bs hd.1 hi hiz his hib hzc hpos _ 0 [] hown ad l'.length c' us hul h3 h2.ones (by simp only [maxLen]; omega) (by rw [Nat.zero_add]; exact Nat.le_trans (Nat.mul_le_mul_left _ (Nat.le_succ _)) hroom) (Nat.zero_le _)
  rw [hr] at hr2
  cases hr2
  simp only [List.nil_append,Nat.zero_add] at h4 hr
  generalize hcap : grownCap w l'.length 0 E = cap at h4 hr
  generalize hob : Obj.cells (([] : List Value).toArray ++ us.toArray ++ Builtin.zeroCells te.z.cells (cap - l'.length)) E = ob at h4 hr
  obtain ⟨β',hβn,hnew⟩ := NewOk.alloc (D := D) (N := N) (β := β) (w := w.drew) (n := s.n) (hN s.n (Nat.le_refl _) (Nat.lt_succ_self _)) (b := .tr τ E l') (ob := ob) (len := l'.length) (cap := cap) trivial
   (fun β' _ _ => ⟨rfl,us,by rw [hsz]; exact h4,h2.keep (fun k hk => ((Below.refl _ w).drew.alloc (Nat.le_refl _) ob).block k (hg.gh.dlt k hk)) fun _ h => h⟩)
  refine ⟨β',_,?_,{ hnew with below := (Below.refl _ w).drew.trans hnew.below },?_⟩
  ·rw [h1] at hex
   rw [hex _ _ hr]
   simp only [SV.den,hβn]
   rfl
  ·exact .inr ⟨Nat.le_refl _,Nat.lt_succ_self _⟩
theorem conX_sound {tb : List (Nat × TI)} (htb : TabOk S P tb) {o2 : List (Nat × Own S)} (hg : G w0 F D0 D ⟨s.t,o2,s.n,s.sz⟩ N β a w) (hsub : ∀ i b,lk s.o i = some b → lk o2 i = some b) (hN : ¬ N s.n) {op : Oper} {T : Nat} {x y : Operand} (hop : op.op = .call ⟨.builtin .append,#[x,y],#[T,T]⟩)
  {j m n' : Nat} (hxj : ev s x = some (.tr j)) {c0 : Option Bool} {ow : Own S} {o' : List (Nat × Own S)} {v : SV} (h : appX tb s T x y = .x c0 ((m,ow) :: o') n' v) (hc : okC c0) :
  ∃ β' w',(execOp a.eval op).run P w = .ok (.value ((SV.tr s.n).den β')) w' ∧ (∀ i,N i → β i = β' i) ∧ GH w0 F D0 D ((s.n,ow) :: rm o2 j) (fun i => N i ∨ i = s.n) β' w' := by
 have hg1 : G w0 F D0 D s N β a w := ⟨hg.defers,hg.size,hg.wft,hg.tmps,hg.gh.subO hsub⟩
 unfold appX at h
 split at h
 case h_2 => cases h
 rename_i e esz ht
 have hd := tdOf_ok htb ht
 simp only [TD.ok] at hd
 split at h
 case h_2 => cases h
 rename_i te hte
 have hoe := htb.get hte
 split at h
 case h_2 => cases h
 rename_i τ hτ
 obtain ⟨hsz,hpos,_,_⟩ := hoe.dat τ hτ
 split at h
 case h_2 => cases h
 rename_i xv yv hz hx hy
 have hz := Nat.eq_of_beq_eq_true hz
 split at h
 case h_2 => cases h
 rename_i d l hb
 split at h
 case h_2 => cases h
 rename_i c l' hs
 cases h
 have hdj : d = some j := by
  rw [hxj] at hx
  cases hx
  unfold baseL at hb
  simp only at hb
  split at hb
  case h_2 => cases hb
  split at hb
  ·cases hb; rfl
  ·cases hb
 have hcc : okC c ∧ room te.bs (l.length + l'.length) = true := by
  cases c with
  | none => exact ⟨trivial,hc⟩
  | some c => simp only [okC,andC,Bool.and_eq_true] at hc; exact hc
 obtain ⟨hc1,hroom⟩ := hcc
 simp only [room,decide_eq_true_eq] at hroom
 obtain ⟨vs,hown,hvs,hblk⟩ := baseL_ok hg1.gh hb
 have hsrc := srcL_ok hg1.gh hs hc1
 have hinf := hoe.info
 cases hi : P.info? e with
 | none => simp [hi] at hinf
 | some i =>
 simp only [hi,Option.map_some,Option.some.injEq,Prod.mk.injEq] at hinf
 obtain ⟨hiz,his,hib⟩ := hinf
 have hzc : te.z.cells.size = te.sz := by rw [← Array.length_toList,hoe.zc β,denL_length,hoe.zl]
 rw [hsz] at hown
 have e1 : a.eval x = xv.den β := ev_den hg1 hx
 have e2 : a.eval y = yv.den β := ev_den hg1 hy
 have hlen_le : l.length + l'.length ≤ (l.length + l'.length) * (te.bs + 1) := Nat.le_mul_of_pos_right _ (by omega)
 -- what append gives
 have key : ∃ v' w',(Builtin.append_ #[T,T] op.type #[xv.den β,yv.den β]).run P w = .ok v' w' ∧ (∃ us,w'.ownsRow 0 e te.sz v' (l ++ l').length us ∧ CellsOk S w D (S.flat τ (l ++ l')) us) ∧ w.grownBy w' (xv.den β).ownBlock ∧
   (v'.ownBlock = none ∨ v'.ownBlock = (xv.den β).ownBlock ∨ v'.ownBlock = some w.heap.size) := by
  have hnil : ∀ (a' : Option Addr) (c' : Nat),yv.den β = .slice a' 0 c' → l' = [] → (a' = none → c' = 0) → ∃ v' w',(Builtin.append_ #[T,T] op.type #[xv.den β,yv.den β]).run P w = .ok v' w' ∧ (∃ us,w'.ownsRow 0 e te.sz v' (l ++ l').length us ∧ CellsOk S w D (S.flat τ (l ++ l')) us) ∧ w.grownBy w' (xv.den β).ownBlock ∧
   (v'.ownBlock = none ∨ v'.ownBlock = (xv.den β).ownBlock ∨ v'.ownBlock = some w.heap.size) := by
   intro a' c' hv hl' hac
   subst hl'
   cases a' with
   | none =>
    have := hac rfl; subst this
    refine ⟨xv.den β,w,?_,⟨vs,by simpa using hown,by simpa using hvs⟩,⟨rfl,rfl,rfl,Nat.le_refl _,fun _ _ _ => rfl⟩,.inr (.inl rfl)⟩
    rw [hv]
    exact run_append_owned_none (P := P) w 0 T op.type e i te.sz hd.1 hi (xv.den β) l.length vs hown
   | some ad =>
    obtain ⟨v',w',hr,h2,h3,h4⟩ := run_append_where w T op.type e i te.z te.sz te.bs hd.1 hi hiz his hib hzc hpos (xv.den β) l.length vs hown ad 0 c' [] (by simp) (fun j u hu => by simp at hu) (fun u hu => by simp at hu)
     (by simp only [maxLen]; simp only [List.length_nil,Nat.add_zero] at hroom hlen_le; omega) (Nat.le_trans (Nat.mul_le_mul_left _ (Nat.le_succ te.bs)) (by simpa using hroom))
    exact ⟨v',w',by rw [hv]; exact hr,⟨vs,by simpa using h2,by simpa using hvs⟩,h3,h4⟩
  rcases hsrc with ⟨h1,h2⟩ | ⟨h1,a',c',h2⟩ | ⟨ad,c',us,h1,h2,h3⟩
  ·exact hnil none 0 h2 h1 fun _ => rfl
  ·cases a' with
   | none =>
    -- a nil address with a capacity: the model appends nothing
    subst h1
    refine ⟨xv.den β,w,?_,⟨vs,by simpa using hown,by simpa using hvs⟩,⟨rfl,rfl,rfl,Nat.le_refl _,fun _ _ _ => rfl⟩,.inr (.inl rfl)⟩
    rw [h2]
    rcases hown.2 with ⟨h5,h6⟩ | ⟨g,cap,cur,h5,_,_,hnc,_⟩
    ·rw [h5]; simp [Builtin.append_,run_underlying hd.1,sizeOf,typeInfo,hi,Builtin.lenOf,Builtin.firstCells]
    ·rw [h5]; simp [Builtin.append_,run_underlying hd.1,sizeOf,typeInfo,hi,Builtin.lenOf,Builtin.firstCells,hnc,storeCells]
   | some ad => exact hnil (some ad) c' h2 h1 (fun h => by cases h)
  ·obtain ⟨v',w',hr,h4,h5,h6⟩ := run_append_where w T op.type e i te.z te.sz te.bs hd.1 hi hiz his hib hzc hpos (xv.den β) l.length vs hown ad l'.length c' us (by rw [← h2.1,S.flat_length,hsz]) h3 h2.ones
    (by simp only [maxLen]; omega) (Nat.le_trans (Nat.mul_le_mul_left _ (by omega)) hroom)
   exact ⟨v',w',by rw [h1]; exact hr,⟨vs ++ us,by rw [List.length_append]; exact h4,by rw [S.flat_append]; exact hvs.append h2⟩,h5,h6⟩
 obtain ⟨v',w',hr,⟨us,h2,hus⟩,h3,h4⟩ := key
 have hblk : ∀ k,(SV.den β xv).ownBlock = some k → ∃ i b,d = some i ∧ lk o2 i = some b ∧ (β i).b = some k := fun k hk => let ⟨i,b,a1,a2,a3⟩ := hblk k hk; ⟨i,b,a1,hsub _ _ a2,a3⟩
 obtain ⟨hgh,hD⟩ := hg.gh.onto (d := d) h3 (fun k hk => let ⟨i,b,a1,a2,a3⟩ := hblk k hk; ⟨i,b,a1,a2,.inl a3⟩)
 have hnb : ∀ g,(nmOf (l ++ l').length v').has g → (nmOf (l ++ l').length v').b = some g := fun g h => (Nm.has_iff (nmOf_sub _ _)).1 h
 obtain ⟨hv',hv2,hv3⟩ := nmOf_row (len := (l ++ l').length) h2
 obtain ⟨β',hβ,hβn,hgh'⟩ := hgh.name (b := .tr τ e (l ++ l')) (nm := nmOf (l ++ l').length v') (n := s.n) hN trivial
  (fun β' hβ hn' => ⟨hv3,us,by rw [← hv',hsz]; exact h2,hus.keep hD fun _ h => h⟩)
  (fun g hg' => by
   have hg' := hnb g hg'
   rw [hv2] at hg'
   rcases h4 with h4 | h4 | h4 <;> rw [hg'] at h4
   ·cases h4
   ·obtain ⟨i,b,_,hi,hib⟩ := hblk g h4.symm; exact hg.gh.fresh i b g hi (.inl hib)
   ·simp only [Option.some.injEq] at h4; subst h4; exact .inl hg.gh.fr.size)
  (fun g hg' hD => by
   have hg' := hnb g hg'
   rw [hv2] at hg'
   rcases h4 with h4 | h4 | h4 <;> rw [hg'] at h4
   ·cases h4
   ·obtain ⟨i,b,_,hi,hib⟩ := hblk g h4.symm; exact hg.gh.off i b g hi (.inl hib) hD
   ·simp only [Option.some.injEq] at h4; subst h4; have := hg.gh.dlt _ hD; omega)
  (fun i b g hi hib he => by
   have he := hnb g he
   rw [hv2] at he
   have hi' := dropO_sub i b hi
   rcases h4 with h4 | h4 | h4 <;> rw [he] at h4
   ·cases h4
   ·obtain ⟨j,c,hd',hj,hjb⟩ := hblk g h4.symm
    have := hg.gh.inj i j b c g hi' hj hib (.inl hjb)
    subst this
    subst hd'
    simp [dropO,lk_rm] at hi
   ·simp only [Option.some.injEq] at h4; subst h4; have := hg.gh.lt i b _ hi' hib; omega)
  (fun g hg' => by
   have hg' := hnb g hg'
   rw [hv2] at hg'
   exact ownsRow_blk_lt h2 hg')
 subst hdj
 refine ⟨β',w',?_,hβ,hgh'⟩
 unfold execOp
 simp only [hop,resolve,invoke,builtin,Sem.run_bind,Sem.run_pure,Result.andThen_ok,List.map_toArray,List.map_cons,List.map_nil,e1,e2,hr,SV.den,hβn,hv3]
 rw [← hv']
end
end Go.En
