/-
 CoreTypes: the law.
-/
import Derived.Test.YtkpggdcpaeanaaaGreatDoorCtR0
import Derived.Test.YtkpggdcpaeanaaaGreatDoorCtR1
import Derived.Test.YtkpggdcpaeanaaaGreatDoorCtR2
import Derived.Test.YtkpggdcpaeanaaaGreatDoorCtR3
import Derived.Test.YtkpggdcpaeanaaaGreatDoorCtR4
import Derived.Test.YtkpggdcpaeanaaaGreatDoorCtR5
import Derived.Test.YtkpggdcpaeanaaaGreatDoorCtR6
namespace Go.Proofs.Tryz
open Go Go.En
theorem T9 (o t1 t2:Int) (h0:0≤o) (h1:o≤255) (g0:0≤t1) (g1:t1≤255) (k0:0≤t2) (k1:t2≤255):m5.k o t1 t2=some ((true,()),()):=by
 have e: ∀ x:Int,0≤x→x≤255→Av x=true:=fun x a b=>by simp [Av];omega
 have m7: ∀ x:Int,0≤x→0≤x.tmod 7∧x.tmod 7<7:=fun x a=>by rw [Int.tmod_eq_emod_of_nonneg a];omega
 have m8:0≤t2.tmod 8∧t2.tmod 8<8:=by rw [Int.tmod_eq_emod_of_nonneg k0];omega
 obtain ⟨a0,a1⟩:=m7 o h0
 obtain ⟨b0,b1⟩:=m7 t1 g0
 unfold m5.k m5.k0
 rw [Hx (e o h0 h1),Hx (by decide),Hx (e t1 g0 g1),Hx (by decide),Hx (e t2 k0 k1),Hx (by decide),Hx (decide_eq_true ⟨a0,a1⟩)]
 have hi:o.tmod 7=0∨o.tmod 7=1∨o.tmod 7=2∨o.tmod 7=3∨o.tmod 7=4∨o.tmod 7=5∨o.tmod 7=6:=by omega
 rcases hi with h|h|h|h|h|h|h<;>rw [h]
 ·exact gE _ _ b0 b1 m8.1 m8.2
 ·exact gF _ _ b0 b1 m8.1 m8.2
 ·exact gG _ _ b0 b1 m8.1 m8.2
 ·exact gH _ _ b0 b1 m8.1 m8.2
 ·exact gI _ _ b0 b1 m8.1 m8.2
 ·exact gJ _ _ b0 b1 m8.1 m8.2
 ·exact gK _ _ b0 b1 m8.1 m8.2
theorem Rx (o t1 t2:Int) (h:0≤o∧o≤255) (g:0≤t1∧t1≤255) (k:0≤t2∧t2≤255):m5.k o t1 t2=some ((true,()),()):=T9 o t1 t2 h.1 h.2 g.1 g.2 k.1 k.2
end Go.Proofs.Tryz
