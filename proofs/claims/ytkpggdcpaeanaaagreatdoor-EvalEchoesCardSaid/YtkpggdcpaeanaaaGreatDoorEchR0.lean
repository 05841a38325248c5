/-
 EvalEchoes: the programs of the numbers from 0 on.
-/
import Derived.Test.YtkpggdcpaeanaaaGreatDoorMu
set_option maxRecDepth 10000000
set_option maxHeartbeats 0
namespace Go.Proofs.Tryz
open Go Go.En
theorem jU:((List.range 8).map fun n=>m18.k (Fb (I (0+n))))=(List.range 8).map fun n=>Ds (CD (I (0+n))) 0 0:=by kernel_rfl
theorem jV:((List.range 8).map fun n=>m18.k (Fb (I (8+n))))=(List.range 8).map fun n=>Ds (CD (I (8+n))) 0 0:=by kernel_rfl
theorem fS:((List.range 8).map fun n=>m18.k (Fb (I (16+n))))=(List.range 8).map fun n=>Ds (CD (I (16+n))) 0 0:=by kernel_rfl
theorem fT:((List.range 8).map fun n=>m18.k (Fb (I (24+n))))=(List.range 8).map fun n=>Ds (CD (I (24+n))) 0 0:=by kernel_rfl
theorem fg (k:Nat) (h0:0<=k) (h1:k<32):m18.k (Fb (I k))=Ds (CD (I k)) 0 0:=by
 by_cases h2:k<8
 ·exact Bt jU k h0 (by omega)
 by_cases h3:k<16
 ·exact Bt jV k (by omega) (by omega)
 by_cases h4:k<24
 ·exact Bt fS k (by omega) (by omega)
 ·exact Bt fT k (by omega) (by omega)
end Go.Proofs.Tryz
