/-
 EvalEchoes: the programs of the numbers from 64 on.
-/
import Derived.Test.YtkpggdcpaeanaaaGreatDoorMu
set_option maxRecDepth 10000000
set_option maxHeartbeats 0
namespace Go.Proofs.Tryz
open Go Go.En
theorem fY:((List.range 8).map fun n=>m18.k (Fb (I (64+n))))=(List.range 8).map fun n=>Ds (CD (I (64+n))) 0 0:=by kernel_rfl
theorem fZ:((List.range 8).map fun n=>m18.k (Fb (I (72+n))))=(List.range 8).map fun n=>Ds (CD (I (72+n))) 0 0:=by kernel_rfl
theorem fa:((List.range 8).map fun n=>m18.k (Fb (I (80+n))))=(List.range 8).map fun n=>Ds (CD (I (80+n))) 0 0:=by kernel_rfl
theorem fe:((List.range 8).map fun n=>m18.k (Fb (I (88+n))))=(List.range 8).map fun n=>Ds (CD (I (88+n))) 0 0:=by kernel_rfl
theorem cA (k:Nat) (h0:64<=k) (h1:k<96):m18.k (Fb (I k))=Ds (CD (I k)) 0 0:=by
 by_cases h2:k<72
 ·exact Bt fY k h0 (by omega)
 by_cases h3:k<80
 ·exact Bt fZ k (by omega) (by omega)
 by_cases h4:k<88
 ·exact Bt fa k (by omega) (by omega)
 ·exact Bt fe k (by omega) (by omega)
end Go.Proofs.Tryz
