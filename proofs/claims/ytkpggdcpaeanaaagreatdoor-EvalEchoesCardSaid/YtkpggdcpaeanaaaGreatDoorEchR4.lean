/-
 EvalEchoes: the programs of the numbers from 128 on.
-/
import Derived.Test.YtkpggdcpaeanaaaGreatDoorMu
set_option maxRecDepth 10000000
set_option maxHeartbeats 0
namespace Go.Proofs.Tryz
open Go Go.En
theorem bY:((List.range 8).map fun n=>m18.k (Fb (I (128+n))))=(List.range 8).map fun n=>Ds (CD (I (128+n))) 0 0:=by kernel_rfl
theorem bZ:((List.range 8).map fun n=>m18.k (Fb (I (136+n))))=(List.range 8).map fun n=>Ds (CD (I (136+n))) 0 0:=by kernel_rfl
theorem ba:((List.range 8).map fun n=>m18.k (Fb (I (144+n))))=(List.range 8).map fun n=>Ds (CD (I (144+n))) 0 0:=by kernel_rfl
theorem bb:((List.range 8).map fun n=>m18.k (Fb (I (152+n))))=(List.range 8).map fun n=>Ds (CD (I (152+n))) 0 0:=by kernel_rfl
theorem Yk (k:Nat) (h0:128<=k) (h1:k<160):m18.k (Fb (I k))=Ds (CD (I k)) 0 0:=by
 by_cases h2:k<136
 ·exact Bt bY k h0 (by omega)
 by_cases h3:k<144
 ·exact Bt bZ k (by omega) (by omega)
 by_cases h4:k<152
 ·exact Bt ba k (by omega) (by omega)
 ·exact Bt bb k (by omega) (by omega)
end Go.Proofs.Tryz
