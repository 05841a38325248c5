/-
 CoreTypes: the runs whose first variable is of kind 2.
-/
import Derived.Test.YtkpggdcpaeanaaaGreatDoorCtS
set_option maxRecDepth 10000000
set_option maxHeartbeats 0
namespace Go.Proofs.Tryz
open Go Go.En
theorem Zx:((List.range 8).all fun n=>Bd (m5.kq (m5.kL 1000000) 2 0 (I n)))=true:=by kernel_rfl
theorem Zy:((List.range 8).all fun n=>Bd (m5.kq (m5.kL 1000000) 2 1 (I n)))=true:=by kernel_rfl
theorem Zz:((List.range 8).all fun n=>Bd (m5.kq (m5.kL 1000000) 2 2 (I n)))=true:=by kernel_rfl
theorem Z0:((List.range 8).all fun n=>Bd (m5.kq (m5.kL 1000000) 2 3 (I n)))=true:=by kernel_rfl
theorem Z1:((List.range 8).all fun n=>Bd (m5.kq (m5.kL 1000000) 2 4 (I n)))=true:=by kernel_rfl
theorem Z2:((List.range 8).all fun n=>Bd (m5.kq (m5.kL 1000000) 2 5 (I n)))=true:=by kernel_rfl
theorem Z3:((List.range 8).all fun n=>Bd (m5.kq (m5.kL 1000000) 2 6 (I n)))=true:=by kernel_rfl
theorem gG (k j:Int) (h0:0≤k) (h7:k<7) (g0:0≤j) (g8:j<8):m5.kq (m5.kL 1000000) 2 k j=some ((true,()),()):=by
 have hk:k=0∨k=1∨k=2∨k=3∨k=4∨k=5∨k=6:=by omega
 rcases hk with rfl|rfl|rfl|rfl|rfl|rfl|rfl
 ·exact Ao Zx g0 g8
 ·exact Ao Zy g0 g8
 ·exact Ao Zz g0 g8
 ·exact Ao Z0 g0 g8
 ·exact Ao Z1 g0 g8
 ·exact Ao Z2 g0 g8
 ·exact Ao Z3 g0 g8
end Go.Proofs.Tryz
