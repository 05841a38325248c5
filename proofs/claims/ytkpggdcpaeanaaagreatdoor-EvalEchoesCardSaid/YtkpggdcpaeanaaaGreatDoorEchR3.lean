/-
 EvalEchoes: the programs of the numbers from 96 on.
-/
import Derived.Test.YtkpggdcpaeanaaaGreatDoorMu
set_option maxRecDepth 10000000
set_option maxHeartbeats 0
namespace Go.Proofs.Tryz
open Go Go.En
theorem ff:((List.range 8).map fun n=>m18.k (Fb (I (96+n))))=(List.range 8).map fun n=>Ds (CD (I (96+n))) 0 0:=by kernel_rfl
theorem bV:((List.range 8).map fun n=>m18.k (Fb (I (104+n))))=(List.range 8).map fun n=>Ds (CD (I (104+n))) 0 0:=by kernel_rfl
theorem bW:((List.range 8).map fun n=>m18.k (Fb (I (112+n))))=(List.range 8).map fun n=>Ds (CD (I (112+n))) 0 0:=by kernel_rfl
theorem bX:((List.range 8).map fun n=>m18.k (Fb (I (120+n))))=(List.range 8).map fun n=>Ds (CD (I (120+n))) 0 0:=by kernel_rfl
theorem cB (k:Nat) (h0:96<=k) (h1:k<128):m18.k (Fb (I k))=Ds (CD (I k)) 0 0:=by
 by_cases h2:k<104
 ·exact Bt ff k h0 (by omega)
 by_cases h3:k<112
 ·exact Bt bV k (by omega) (by omega)
 by_cases h4:k<120
 ·exact Bt bW k (by omega) (by omega)
 ·exact Bt bX k (by omega) (by omega)
end Go.Proofs.Tryz
