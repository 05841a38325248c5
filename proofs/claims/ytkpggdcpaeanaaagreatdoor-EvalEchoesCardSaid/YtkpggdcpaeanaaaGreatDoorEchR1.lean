/-
 EvalEchoes: the programs of the numbers from 32 on.
-/
import Derived.Test.YtkpggdcpaeanaaaGreatDoorMu
set_option maxRecDepth 10000000
set_option maxHeartbeats 0
namespace Go.Proofs.Tryz
open Go Go.En
theorem fU:((List.range 8).map fun n=>m18.k (Fb (I (32+n))))=(List.range 8).map fun n=>Ds (CD (I (32+n))) 0 0:=by kernel_rfl
theorem fV:((List.range 8).map fun n=>m18.k (Fb (I (40+n))))=(List.range 8).map fun n=>Ds (CD (I (40+n))) 0 0:=by kernel_rfl
theorem fW:((List.range 8).map fun n=>m18.k (Fb (I (48+n))))=(List.range 8).map fun n=>Ds (CD (I (48+n))) 0 0:=by kernel_rfl
theorem fX:((List.range 8).map fun n=>m18.k (Fb (I (56+n))))=(List.range 8).map fun n=>Ds (CD (I (56+n))) 0 0:=by kernel_rfl
theorem b9 (k:Nat) (h0:32<=k) (h1:k<64):m18.k (Fb (I k))=Ds (CD (I k)) 0 0:=by
 by_cases h2:k<40
 ·exact Bt fU k h0 (by omega)
 by_cases h3:k<48
 ·exact Bt fV k (by omega) (by omega)
 by_cases h4:k<56
 ·exact Bt fW k (by omega) (by omega)
 ·exact Bt fX k (by omega) (by omega)
end Go.Proofs.Tryz
