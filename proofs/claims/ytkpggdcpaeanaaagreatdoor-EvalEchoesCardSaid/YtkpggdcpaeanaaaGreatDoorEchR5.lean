/-
 EvalEchoes: the programs of the numbers from 160 on.
-/
import Derived.Test.YtkpggdcpaeanaaaGreatDoorMu
set_option maxRecDepth 10000000
set_option maxHeartbeats 0
namespace Go.Proofs.Tryz
open Go Go.En
theorem bc:((List.range 8).map fun n=>m18.k (Fb (I (160+n))))=(List.range 8).map fun n=>Ds (CD (I (160+n))) 0 0:=by kernel_rfl
theorem bd:((List.range 8).map fun n=>m18.k (Fb (I (168+n))))=(List.range 8).map fun n=>Ds (CD (I (168+n))) 0 0:=by kernel_rfl
theorem bf:((List.range 8).map fun n=>m18.k (Fb (I (176+n))))=(List.range 8).map fun n=>Ds (CD (I (176+n))) 0 0:=by kernel_rfl
theorem bg:((List.range 8).map fun n=>m18.k (Fb (I (184+n))))=(List.range 8).map fun n=>Ds (CD (I (184+n))) 0 0:=by kernel_rfl
theorem Yl (k:Nat) (h0:160<=k) (h1:k<192):m18.k (Fb (I k))=Ds (CD (I k)) 0 0:=by
 by_cases h2:k<168
 ·exact Bt bc k h0 (by omega)
 by_cases h3:k<176
 ·exact Bt bd k (by omega) (by omega)
 by_cases h4:k<184
 ·exact Bt bf k (by omega) (by omega)
 ·exact Bt bg k (by omega) (by omega)
end Go.Proofs.Tryz
