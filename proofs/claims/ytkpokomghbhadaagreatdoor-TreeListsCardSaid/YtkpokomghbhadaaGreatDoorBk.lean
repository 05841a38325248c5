/-
 slices.Backward at numbers: what it hands on.
-/
import Derived.Test.YtkpokomghbhadaaGreatDoorEnF
import Derived.Shelf.Abstract
import Derived.Shelf.RegionOpen
import Derived.OwnWalkIn
import Derived.TacticsInMore
import Derived.LoopIn
import Derived.Test.YtkpokomghbhadaaGreatDoorProg
namespace Go.Proofs
open Go Go.En Go.RowKit Go.Shelf
attribute [local go_sem] Oper.semAt_some
def upto {α : Type} (f : Nat → α) (k : Nat) : List α := (List.range k).map f
theorem upto_succ {α : Type} (f : Nat → α) (k : Nat) : upto f (k + 1) = upto f k ++ [f k] := by simp [upto,List.range_succ]
theorem upto_split {α : Type} (f : Nat → α) {k n : Nat} (h : k < n) : ∃ rest,upto f n = upto f k ++ f k :: rest := by
 induction n with
 | zero => omega
 | succ n ih =>
  rw [upto_succ]
  by_cases hk : k = n
  ·subst hk; exact ⟨[],rfl⟩
  ·obtain ⟨r,hr⟩ := ih (by omega)
   exact ⟨r ++ [f n],by rw [hr]; simp⟩
theorem upto_pre {α : Type} (f : Nat → α) {k n : Nat} (h : k ≤ n) : upto f k <+: upto f n := by
 by_cases hk : k = n
 ·subst hk; exact List.prefix_refl _
 ·obtain ⟨r,hr⟩ := upto_split f (show k < n by omega)
  exact ⟨f k :: r,hr.symm⟩
def bwd (zs : List Int) : List (Int × Int) := upto (fun k => ((zs.length : Int) - 1 - k,zs[zs.length - 1 - k]?.getD 0)) zs.length
def BkRd (Bs : Nat) (zs : List Int) (W : World) : Prop :=
 (zs = [] ∧ ∃ a c,W.cell? ⟨Bs,0,none⟩ = some (.slice a 0 c)) ∨ ∃ b off cap,W.cell? ⟨Bs,0,none⟩ = some (.slice (some ⟨b,off,none⟩) zs.length cap) ∧ ∀ j,j < zs.length → W.cell? ⟨b,off + j,none⟩ = some (.int .i64 (zs[j]?.getD 0))
set_option maxRecDepth 100000 in
set_option maxHeartbeats 4000000 in
theorem Tryz.bk_iter (Bs : Nat) (zs : List Int) (hz : zs.length < 9223372036854775807) : Iter Tryz.prog 85 #[.pointer (some ⟨Bs,0,none⟩)] (fun x : Int × Int => #[Value.int .i64 x.1,Value.int .i64 x.2]) (bwd zs) (BkRd Bs zs) := by
 intro l J Jx W hRd hY h0
 refine callsIn_of_wp Tryz.func85 rfl trivial ?_ rfl
 simp only [Tryz.ntmps85,List.size_toArray,List.length_cons,List.length_nil,Nat.reduceAdd,Nat.reduceSub,Array.replicate_succ,Array.replicate_zero,List.push_toArray,List.append_toArray,List.nil_append,List.cons_append]
 obtain ⟨a,c,hBs⟩ : ∃ a c,W.cell? ⟨Bs,0,none⟩ = some (.slice a zs.length c) := by
  rcases hRd _ _ h0 with ⟨rfl,a,c,h⟩ | ⟨b,off,cap,h,_⟩
  ·exact ⟨a,c,h⟩
  ·exact ⟨_,cap,h⟩
 gi_wp2
 gi_loopw [3] (fun i wr => ∃ k : Nat,k ≤ zs.length ∧ i = .int .i64 ((zs.length : Int) - 1 - k) ∧ J (upto (fun k => ((zs.length : Int) - 1 - k,zs[zs.length - 1 - k]?.getD 0)) k) wr)
  (fun i _ => (intOf i + 1).toNat)
 case atStart => exact ⟨0,Nat.zero_le _,by simp,h0⟩
 case round =>
  obtain ⟨k,hk,rfl,hJs⟩ := hrel
  by_cases hlt : k < zs.length
  ·obtain ⟨rest,hrest⟩ := upto_split (fun k => ((zs.length : Int) - 1 - k,zs[zs.length - 1 - k]?.getD 0)) hlt
   obtain ⟨fn,tmps,assign,body,hy,hR⟩ := hY _ _ _ wr hrest hJs
   dsimp only at hy
   obtain ⟨b,off,cap,hb,hc⟩ : ∃ b off cap,wr.cell? ⟨Bs,0,none⟩ = some (.slice (some ⟨b,off,none⟩) zs.length cap) ∧ ∀ j,j < zs.length → wr.cell? ⟨b,off + j,none⟩ = some (.int .i64 (zs[j]?.getD 0)) := by
    rcases hRd _ _ hJs with ⟨h,_⟩ | h
    ·rw [h] at hlt; simp at hlt
    ·exact h
   have hge : (0 : Int) ≤ (zs.length : Int) - 1 - k := by omega
   have hlt2 : (zs.length : Int) - 1 - k < zs.length := by omega
   have hcx : wr.cell? ⟨b,off + (zs.length - 1 - k),none⟩ = some (.int .i64 (zs[zs.length - 1 - k]?.getD 0)) := hc _ (by omega)
   gi_wp2
   refine hR.mono ?_
   rintro e W3 (⟨rfl,hJ3⟩ | ⟨rfl,hJx3⟩)
   ·gi_wp2
    go_roundw
    case rel => exact ⟨k + 1,by omega,by simp; omega,by rw [upto_succ]; exact hJ3⟩
    case measure => simp [intOf]; omega
   ·gi_wp2
    refine bodyPost_ret (results_none rfl _ _ _) rfl ?_
    exact ⟨⟨_,rfl⟩,.inr ⟨_,by rw [← upto_succ]; exact upto_pre _ (by omega),hJx3⟩⟩
  ·obtain rfl : k = zs.length := by omega
   gi_wp2
   go_end0
   exact ⟨⟨_,rfl⟩,.inl hJs⟩
end Go.Proofs
