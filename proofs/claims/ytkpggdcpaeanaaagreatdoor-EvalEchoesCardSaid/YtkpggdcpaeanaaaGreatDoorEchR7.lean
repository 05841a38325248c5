/-
 EvalEchoes: the programs of the numbers from 224 on.
-/
import Derived.Test.YtkpggdcpaeanaaaGreatDoorMu
set_option maxRecDepth 10000000
set_option maxHeartbeats 0
namespace Go.Proofs.Tryz
open Go Go.En
theorem bq:((List.range 8).map fun n=>m18.k (Fb (I (224+n))))=(List.range 8).map fun n=>Ds (CD (I (224+n))) 0 0:=by kernel_rfl
theorem br:((List.range 8).map fun n=>m18.k (Fb (I (232+n))))=(List.range 8).map fun n=>Ds (CD (I (232+n))) 0 0:=by kernel_rfl
theorem bt:((List.range 8).map fun n=>m18.k (Fb (I (240+n))))=(List.range 8).map fun n=>Ds (CD (I (240+n))) 0 0:=by kernel_rfl
theorem bu:((List.range 8).map fun n=>m18.k (Fb (I (248+n))))=(List.range 8).map fun n=>Ds (CD (I (248+n))) 0 0:=by kernel_rfl
theorem Yn (k:Nat) (h0:224<=k) (h1:k<256):m18.k (Fb (I k))=Ds (CD (I k)) 0 0:=by
 by_cases h2:k<232
 ·exact Bt bq k h0 (by omega)
 by_cases h3:k<240
 ·exact Bt br k (by omega) (by omega)
 by_cases h4:k<248
 ·exact Bt bt k (by omega) (by omega)
 ·exact Bt bu k (by omega) (by omega)
end Go.Proofs.Tryz
