/-
 EvalEchoes: the programs of the numbers from 192 on.
-/
import Derived.Test.YtkpggdcpaeanaaaGreatDoorMu
set_option maxRecDepth 10000000
set_option maxHeartbeats 0
namespace Go.Proofs.Tryz
open Go Go.En
theorem bh:((List.range 8).map fun n=>m18.k (Fb (I (192+n))))=(List.range 8).map fun n=>Ds (CD (I (192+n))) 0 0:=by kernel_rfl
theorem bj:((List.range 8).map fun n=>m18.k (Fb (I (200+n))))=(List.range 8).map fun n=>Ds (CD (I (200+n))) 0 0:=by kernel_rfl
theorem bo:((List.range 8).map fun n=>m18.k (Fb (I (208+n))))=(List.range 8).map fun n=>Ds (CD (I (208+n))) 0 0:=by kernel_rfl
theorem bp:((List.range 8).map fun n=>m18.k (Fb (I (216+n))))=(List.range 8).map fun n=>Ds (CD (I (216+n))) 0 0:=by kernel_rfl
theorem Ym (k:Nat) (h0:192<=k) (h1:k<224):m18.k (Fb (I k))=Ds (CD (I k)) 0 0:=by
 by_cases h2:k<200
 ·exact Bt bh k h0 (by omega)
 by_cases h3:k<208
 ·exact Bt bj k (by omega) (by omega)
 by_cases h4:k<216
 ·exact Bt bo k (by omega) (by omega)
 ·exact Bt bp k (by omega) (by omega)
end Go.Proofs.Tryz
